import Derived.Test.YtdipcmigdbnheaaGreatX02
set_option linter.all false
set_option maxHeartbeats 0
set_option maxRecDepth 20000
open Bool renaming and_eq_true→bw
open List renaming mem_cons→cB,mem_of_getElem?→iD,getElem?_map→cj,getElem?_cons_zero→vP,getElem?_append_left→cT,getElem?_set_ne→bR,getElem?_cons_succ→vR,getElem?_append_right→fV,length_cons→eB,eq_nil_of_length_eq_zero→rz,getElem?_eq_some_iff→a8,getD_eq_getElem?_getD→aA,mem_map_of_mem→Gw,length_map→dX,mem_map→cz,all_eq_true→fT,map_congr_left→l8
open Option renaming map_eq_some_iff→BC,some→dI,map_some→fl
open Nat renaming lt_or_ge→fK,le_refl→aN
open Array renaming toList_append→BA,getD_eq_getD_getElem?→gm,getElem?_append_left→Gx,getElem?_toList→Ds,getElem?_map→Pl
namespace Go.Am
variable {P:Program}
mutual
def bC(ρ:Nat->Nat):AV->AV
 |.ref id sz off len=>.ref (ρ id) sz off len
 |.ptr id r c=>.ptr (ρ id) r c
 |.agg cs=>.agg (qu ρ cs)
 |.bJ cs=>.bJ (qu ρ cs)
 |.fn f cs=>.fn f (qu ρ cs)
 |.jl t v=>.jl t (bC ρ v)
 |.iV id=>.iV (ρ id)
 |v=>v
def qu(ρ:Nat->Nat):List AV->List AV
 |[]=>[]
 |v::vs=>bC ρ v::qu ρ vs
end
def xy(ρ:Nat->Nat)(l:List AV):qu ρ l=l.map (bC ρ):=by
 induction l with
 |nil=>simp[qu]
 |cons v l ih=>simp[qu,ih]
def cg(ρ:Nat->Nat):Ob->Ob
 |.gone=>.gone
 |.var cs=>.var (cs.map (bC ρ))
 |.arr sz rows=>.arr sz (rows.map (·.map (bC ρ)))
 |.mp ag L=>.mp ag (L.map λp=>(p.1,bC ρ p.2))
mutual
def flat:AV->Bool
 |.tree ..=>false
 |.cq _=>false
 |.agg cs=>BY cs
 |.bJ cs=>BY cs
 |.fn _ cs=>BY cs
 |.jl _ v=>flat v
 |_=>true
def BY:List AV->Bool
 |[]=>true
 |v::vs=>flat v&&BY vs
end
def KN{l:List AV}(h:BY l=true):∀ v∈l,flat v=true:=by
 induction l with
 |nil=>intro v hv;simp at hv
 |cons x l ih =>
  simp only[BY,bw]at h;intro v hv;rcases cB.1 hv with rfl|hv
  ·exact h.1
  ·exact ih h.2 v hv
def xB:Ob->Prop
 |.gone=>True
 |.var cs=>∀ v∈cs,flat v=true
 |.arr _ rows=>∀ row∈rows,∀ v∈row,flat v=true
 |.mp _ L=>∀ p∈L,flat p.2=true
def aC.ad3{os:List Ob}{w:World}{Z Z':Nat->Prop}{blk:iG}{v:AV}{cv:Value}(h:aC os w Z blk v cv)(hf:flat v=true):aC os w Z' blk v cv:=by
 induction h with
 |undef cv=>exact .undef cv
 |cC v cv h=>cases h<;>first|exact .cC _ _ (.lit _)|simp[flat]at hf
 |cq=>simp[flat]at hf
 |mh id sz off len cv h h1=>exact .mh id sz off len cv h h1
 |ov id r c cv h h1=>exact .ov id r c cv h h1
 |ref id sz off len b o cap cap' rows h hb hl hc lh=>exact .ref id sz off len b o cap cap' rows h hb hl hc lh
 |nN id sz h hb=>exact .nN id sz h hb
 |ow id sz off b x bo rows h hb hl=>exact .ow id sz off b x bo rows h hb hl
 |oZ id c b cap cells h hb=>exact .oZ id c b cap cells h hb
 |pJ id r c sz b o cap rows h hb=>exact .pJ id r c sz b o cap rows h hb
 |agg cs bG hs _ ih=>simp only[flat]at hf;exact .agg cs bG hs (λj x hx=>ih j x hx (KN hf x (iD hx)))
 |bJ cs bG hs _ ih=>simp only[flat]at hf;exact .bJ cs bG hs (λj x hx=>ih j x hx (KN hf x (iD hx)))
 |fn f cs bG hs _ ih=>simp only[flat]at hf;exact .fn f cs bG hs (λj x hx=>ih j x hx (KN hf x (iD hx)))
 |jl t v cv _ ih=>simp only[flat]at hf;exact .jl t v cv (ih hf)
 |iV id b ag L h hb=>exact .iV id b ag L h hb
 |sN id cv h h1=>exact .sN id cv h h1
def aC.up{os os':List Ob}{w:World}{Z Z':Nat->Prop}{blk lJ:iG}{ρ:Nat->Nat}{v:AV}{cv:Value}(h:aC os w Z blk v cv)(hz:∀ b,Z b->Z' b)(ho:∀ j o,os[j]?=some o->os'[ρ j]?=some (cg ρ o)/\(o≠.gone->lJ (ρ j)=blk j)):aC os' w Z' lJ (bC ρ v) cv:=by
 induction h with
 |undef cv=>exact .undef cv
 |cC v cv h =>
  have h':aC os' w Z' lJ v cv:=.cC _ _ (h.mono (λb hb=>⟨hz b hb,rfl⟩));cases h<;>simpa [bC] using h'
 |cq cells b o f xC hc ht=>exact .cq cells b o f (hz b xC) hc (λj x hx=>(ht j x hx).mono (λb hb=>⟨hz b hb,rfl⟩))
 |mh id sz off len cv h h1=>exact .mh _ sz off len cv (ho id _ h).1 h1
 |ov id r c cv h h1=>exact .ov _ r c cv (ho id _ h).1 h1
 |ref id sz off len b o cap cap' rows h hb hl hc lh =>
  obtain⟨h1,h2⟩:=ho id _ h;exact .ref _ sz off len b o cap cap' _ h1 ((h2 GF).trans hb) (by simpa using hl) hc lh
 |nN id sz h hb =>
  obtain⟨h1,h2⟩:=ho id _ h;exact .nN _ sz h1 ((h2 GF).trans hb)
 |ow id sz off b x bo rows h hb hl =>
  obtain⟨h1,h2⟩:=ho id _ h;exact .ow _ sz off b x bo _ h1 ((h2 GF).trans hb) (by simpa using hl)
 |oZ id c b cap cells h hb =>
  obtain⟨h1,h2⟩:=ho id _ h;exact .oZ _ c b cap _ h1 ((h2 GF).trans hb)
 |pJ id r c sz b o cap rows h hb =>
  obtain⟨h1,h2⟩:=ho id _ h;exact .pJ _ r c sz b o cap _ h1 ((h2 GF).trans hb)
 |agg cs bG hs _ ih =>
  simp only[bC,xy];refine .agg _ bG (by simpa using hs) (λj x hx=>?_);simp only[cj,BC]at hx;obtain⟨y,hy,rfl⟩:=hx;exact ih j y hy
 |bJ cs bG hs _ ih =>
  simp only[bC,xy];refine .bJ _ bG (by simpa using hs) (λj x hx=>?_);simp only[cj,BC]at hx;obtain⟨y,hy,rfl⟩:=hx;exact ih j y hy
 |fn f cs bG hs _ ih =>
  simp only[bC,xy];refine .fn f _ bG (by simpa using hs) (λj x hx=>?_);simp only[cj,BC]at hx;obtain⟨y,hy,rfl⟩:=hx;exact ih j y hy
 |jl t v cv _ ih=>simp only[bC];exact .jl t _ cv ih
 |iV id b ag L h hb =>
  obtain⟨h1,h2⟩:=ho id _ h;exact .iV _ b ag _ h1 ((h2 GF).trans hb)
 |sN id cv h h1=>exact .sN _ cv (ho id _ h).1 h1
def DR{ρ:Nat->Nat}{o:Ob}:cg ρ o=.gone↔o=.gone:=by cases o<;>simp[cg]
def Ob.ad4{ρ:Nat->Nat}{x y:Ob}(h:x.fB y):(cg ρ x).fB (cg ρ y):=by
 cases x<;>cases y<;>simp[Ob.fB,cg]at h ⊢<;>exact h
def aC.down{os os':List Ob}{w:World}{Z Z':Nat->Prop}{blk lJ:iG}{ρ:Nat->Nat}{v:AV}{cv:Value}(h:aC os w Z blk v cv)(hz:∀ b,Z b->Z' b)(ho:∀ j x,os[ρ j]?=some x->∃ o,os'[j]?=some o/\(o=.gone\/(x=cg ρ o/\lJ j=blk (ρ j)))):∀ v',v=bC ρ v'->aC os' w Z' lJ v' cv:=by
 induction h with
 |undef cv=>intro v' hv;cases v'<;>simp[bC]at hv;exact .undef cv
 |cC v cv h =>
  intro v' hv;have h':aC os' w Z' lJ v cv:=.cC _ _ (h.mono (λb hb=>⟨hz b hb,rfl⟩));cases h<;>cases v'<;>simp[bC]at hv<;>(first|(subst hv;exact h')|(obtain⟨rfl,rfl⟩:=hv;exact h'))
 |cq cells b o f xC hc ht =>
  intro v' hv;cases v'<;>simp[bC]at hv;subst hv;exact .cq _ b o f (hz b xC) hc (λj x hx=>(ht j x hx).mono (λb hb=>⟨hz b hb,rfl⟩))
 |mh id sz off len cv h h1 =>
  intro v' hv;cases v'<;>simp[bC]at hv;obtain⟨rfl,rfl,rfl,rfl⟩:=hv;obtain⟨o,h2,rfl |⟨h3,_⟩⟩:=ho _ _ h
  ·exact .mh _ _ _ _ cv h2 h1
  ·have:=DR.1 h3.symm;subst this;exact .mh _ _ _ _ cv h2 h1
 |ov id r c cv h h1 =>
  intro v' hv;cases v'<;>simp[bC]at hv;obtain⟨rfl,rfl,rfl⟩:=hv;obtain⟨o,h2,rfl |⟨h3,_⟩⟩:=ho _ _ h
  ·exact .ov _ _ _ cv h2 h1
  ·have:=DR.1 h3.symm;subst this;exact .ov _ _ _ cv h2 h1
 |ref id sz off len b o cap cap' rows h hb hl hc lh =>
  intro v' hv;cases v'<;>simp[bC]at hv;obtain⟨rfl,rfl,rfl,rfl⟩:=hv;obtain⟨x,h2,rfl |⟨h3,h4⟩⟩:=ho _ _ h
  ·exact .mh _ _ _ _ _ h2 rfl
  ·cases x<;>simp[cg]at h3;obtain⟨rfl,rfl⟩:=h3;exact .ref _ _ _ _ b o cap cap' _ h2 (h4.trans hb) (by simpa using hl) hc lh
 |nN id sz h hb =>
  intro v' hv;cases v'<;>simp[bC]at hv;obtain⟨rfl,rfl,rfl,rfl⟩:=hv;obtain⟨x,h2,rfl |⟨h3,h4⟩⟩:=ho _ _ h
  ·exact .mh _ _ _ _ _ h2 rfl
  ·cases x<;>simp[cg]at h3;obtain⟨rfl,h3⟩:=h3;subst h3;exact .nN _ _ h2 (h4.trans hb)
 |ow id sz off b x bo rows h hb hl =>
  intro v' hv;cases v'<;>simp[bC]at hv;obtain⟨rfl,rfl,rfl,rfl⟩:=hv;obtain⟨y,h2,rfl |⟨h3,h4⟩⟩:=ho _ _ h
  ·exact .mh _ _ _ _ _ h2 rfl
  ·cases y<;>simp[cg]at h3;obtain⟨rfl,rfl⟩:=h3;exact .ow _ _ _ b x bo _ h2 (h4.trans hb) (by simpa using hl)
 |oZ id c b cap cells h hb =>
  intro v' hv;cases v'<;>simp[bC]at hv;obtain⟨rfl,rfl,rfl⟩:=hv;obtain⟨y,h2,rfl |⟨h3,h4⟩⟩:=ho _ _ h
  ·exact .ov _ _ _ _ h2 rfl
  ·cases y<;>simp[cg]at h3;exact .oZ _ _ b cap _ h2 (h4.trans hb)
 |pJ id r c sz b o cap rows h hb =>
  intro v' hv;cases v'<;>simp[bC]at hv;obtain⟨rfl,rfl,rfl⟩:=hv;obtain⟨y,h2,rfl |⟨h3,h4⟩⟩:=ho _ _ h
  ·exact .ov _ _ _ _ h2 rfl
  ·cases y<;>simp[cg]at h3;obtain⟨rfl,rfl⟩:=h3;exact .pJ _ _ _ _ b o cap _ h2 (h4.trans hb)
 |agg cs bG hs _ ih =>
  intro v' hv;cases v'<;>simp[bC,xy]at hv;rename_i sO;subst hv;exact .agg _ bG (by simpa using hs) (λj x hx=>ih j (bC ρ x) (by simp[hx]) x rfl)
 |bJ cs bG hs _ ih =>
  intro v' hv;cases v'<;>simp[bC,xy]at hv;rename_i sO;subst hv;exact .bJ _ bG (by simpa using hs) (λj x hx=>ih j (bC ρ x) (by simp[hx]) x rfl)
 |fn f cs bG hs _ ih =>
  intro v' hv;cases v'<;>simp[bC,xy]at hv;obtain⟨rfl,hv⟩:=hv;subst hv;exact .fn _ _ bG (by simpa using hs) (λj x hx=>ih j (bC ρ x) (by simp[hx]) x rfl)
 |jl t v cv _ ih =>
  intro v' hv;cases v'<;>simp[bC]at hv;obtain⟨rfl,hv⟩:=hv;exact .jl _ _ cv (ih _ hv)
 |iV id b ag L h hb =>
  intro v' hv;cases v'<;>simp[bC]at hv;subst hv;obtain⟨y,h2,rfl |⟨h3,h4⟩⟩:=ho _ _ h
  ·exact .sN _ _ h2 rfl
  ·cases y<;>simp[cg]at h3;obtain⟨rfl,h3⟩:=h3;exact .iV _ b _ _ h2 (h4.trans hb)
 |sN id cv h h1 =>
  intro v' hv;cases v'<;>simp[bC]at hv;subst hv;obtain⟨y,h2,rfl |⟨h3,h4⟩⟩:=ho _ _ h
  ·exact .sN _ _ h2 h1
  ·exact .sN _ _ (by rw[h2,DR.1 h3.symm]) h1
def Rr(P : Program)(f : FuncId): Prop := ∃ fn, P.funcs[f]? = some fn /\ (fn.name == "runtime.NumGoroutine") = false /\ fn.body.isNone = false
def ao(P:Program)(f:FuncId)(args:List AV)(aa:List Ob)(res:AV)(bI:List Ob):Prop :=
 Rr P f/\∀ γ:Cx,γ.tmps.size=args.length->bS ⟨λk=>args.getD k .undef,aa⟩ γ ->
  Calls P f γ.tmps γ.w (λe w'=>∃ cv aO,e=.returned cv/\aO.w=w'/\aO.tmps = #[cv]/\bS ⟨λk=>[res].getD k .undef,bI⟩ aO/\Fr aa γ bI aO)
inductive cL(σ:St)(kp:Nat->Prop):AV->AV->Prop
 |lit (x:Value):cL σ kp (.lit x) (.lit x)
 |tree (s:Nat) (r:List (List AV)):cL σ kp (.tree s r) (.tree s r)
 |nil (sz:Nat):cL σ kp (.tree sz []) (.lit (.slice none 0 0))
 |ref (id sz off len:Nat) (rows iI:List (List AV)) (g:Nat->Nat->AV) (ho:σ.aa[id]?=some (.arr sz rows)) (tF:¬ kp id) (hl:iI.length=((rows.drop off).take len).length) (hw:∀ row∈iI,row.length=sz)
   (h1:∀ r c v,cellAt iI r c=some v->cellAt ((rows.drop off).take len) r c=some (g r c)) (h2:∀ r c v,cellAt iI r c=some v->cL σ kp v (g r c)):cL σ kp (.tree sz iI) (.ref id sz off len)
inductive aJ(σ:St)(kp:Nat->Prop)(ρ:Nat->Nat)(snap:Bool):AV->AV->Prop
 |same (v:AV):aJ σ kp ρ snap v (bC ρ v)
 |snap (c d:AV) (hs:snap=true) (h:cL σ kp c d):aJ σ kp ρ snap c d
 |agg (cs ds:List AV) (hl:cs.length=ds.length) (h:∀ (j:Nat) c d,cs[j]?=some c->ds[j]?=some d->aJ σ kp ρ snap c d):aJ σ kp ρ snap (.agg cs) (.agg ds)
 |bJ (cs ds:List AV) (hl:cs.length=ds.length) (h:∀ (j:Nat) c d,cs[j]?=some c->ds[j]?=some d->aJ σ kp ρ snap c d):aJ σ kp ρ snap (.bJ cs) (.bJ ds)
def bL(n:Nat)(au:List Nat)(j:Nat):Nat:=if j<au.length then au.getD j 0 else n+(j-au.length)
def eS(aa:List Ob):List Nat->List Ob->List Ob
 |i::au,o::new=>eS (aa.set i o) au new
 |[],new=>aa++new
 |_::_,[]=>aa
def KE(au:List Nat):∀ (aa new:List Ob),au.length<=new.length->(eS aa au new).length=aa.length+(new.length-au.length):=by
 induction au with
 |nil=>intro aa new _;simp[eS]
 |cons i au ih =>
  intro aa new h;cases new with
  |nil=>simp at h
  |cons o new=>simp only[eS];rw[ih _ _ (by simpa using h)];simp
def G6(au:List Nat):∀ (aa new:List Ob),au.length<=new.length->au.Nodup->(∀ i∈au,i<aa.length)->∀ j,j<au.length->(eS aa au new)[au.getD j 0]?=new[j]?:=by
 induction au with
 |nil=>intro aa new _ _ _ j hj;simp at hj
 |cons i au ih =>
  intro aa new h hn hl j hj;cases new with
  |nil=>simp at h
  |cons o new =>
   simp only[eS];rw[List.nodup_cons]at hn;have hi:=hl i GF;have h':au.length<=new.length:=by simpa using h
   cases j with
   |zero =>
    simp only[List.getD_cons_zero,vP];have key:∀ (au:List Nat) (aa new:List Ob),au.length<=new.length->i ∉ au->i<aa.length->(eS aa au new)[i]?=aa[i]?:=by
     intro au
     induction au with
     |nil=>intro aa new _ _ hi;simp only[eS];rw[cT hi]
     |cons k au ih2 =>
      intro aa new h An hi;cases new with
      |nil=>simp at h
      |cons o new =>
       simp only[cB,not_or]at An;simp only[eS];rw[ih2 _ _ (by simpa using h) An.2 (by simpa using hi),bR (Ne.symm An.1)]
    rw[key au _ _ h' hn.1 (by simpa using hi)];simp[hi]
   |succ j =>
    simp only[List.getD_cons_succ,vR];exact ih _ _ h' hn.2 (λk hk=>by simpa using hl k (by simp[hk])) j (by simpa using hj)
def Hd(au:List Nat):∀ (aa new:List Ob),au.length<=new.length->∀ i,i ∉ au->i<aa.length->(eS aa au new)[i]?=aa[i]?:=by
 induction au with
 |nil=>intro aa new _ i _ hi;simp only[eS];rw[cT hi]
 |cons k au ih =>
  intro aa new h i An hi;cases new with
  |nil=>simp at h
  |cons o new =>
   simp only[cB,not_or]at An;simp only[eS];rw[ih _ _ (by simpa using h) i An.2 (by simpa using hi),bR (Ne.symm An.1)]
def Qh(au:List Nat):∀ (aa new:List Ob),au.length<=new.length->∀ m,(eS aa au new)[aa.length+m]?=new[au.length+m]?:=by
 induction au with
 |nil=>intro aa new _ m;simp only[eS];rw[fV GC];simp
 |cons k au ih =>
  intro aa new h m;cases new with
  |nil=>simp at h
  |cons o new =>
   simp only[eS];have:=ih (aa.set k o) new (by simpa using h) m;simp only[List.length_set]at this;rw[this];simp only[eB];have e:au.length+1+m=(au.length+m)+1:=GC;rw[e];simp
end Go.Am
namespace Go.Am
variable {P:Program}
def He(P:Program)(f:FuncId)(args:List AV)(σ:St)(K:AV->St->Prop):Prop :=
 ∃ (au:List Nat) (snap:Bool) (ec:List AV) (cp:List Ob) (res:AV) (dh:List Ob),ao P f ec cp res dh /\
  (au.Nodup/\cp.length=au.length/\(∀ (j:Nat) o,cp[j]?=some o->σ.aa[au.getD j 0]?=some (cg (bL σ.aa.length au) o)) /\
   ec.length=args.length/\(∀ (j:Nat) c d,ec[j]?=some c->args[j]?=some d->aJ σ (·∈au) (bL σ.aa.length au) snap c d) /\
   (snap=true->flat res=true/\∀ o∈dh,xB o)) /\
  K (bC (bL σ.aa.length au) res) { σ with aa:=eS σ.aa au (dh.map (cg (bL σ.aa.length au))) }
def cL.DF{σ:St}{γ:Cx}(h:bS σ γ){kp:Nat->Prop}{γc:Cx}(hz:∀ b,γ.Z b->γc.Z b)(hw:γc.w=γ.w)(KO:∀ id b o cap,¬ kp id->Live σ.aa id->γ.blk id=some (b,o,cap)->γc.Z b){c d:AV}(ha:cL σ kp c d):∀ cv,aC σ.aa γ.w γ.Z γ.blk d cv->jf γc.w γc.Z c cv:=by
 induction ha with
 |lit x=>intro cv hv;rw[hv.dz];exact .lit x
 |tree s r=>intro cv hv;exact hv.Ao.mono (λb hb=>⟨hz b hb,by rw[hw]⟩)
 |nil sz=>intro cv hv;rw[hv.dz];exact .nil sz 0 none
 |ref id sz off len rows iI g bk tF hl0 GX v3 tE ih =>
  intro cv hv;obtain⟨h0,cD,ad6⟩:=h.fL id _ bk;have cY:Live σ.aa id:=⟨_,bk,GF⟩;cases hv with
  |cC _ _ h=>cases h
  |mh _ _ _ _ _ h=>rw[bk]at h;simp at h
  |nN _ _ h' hb =>
   have:iI=[]:=rz (by simpa using hl0);subst this;exact jf.nil sz 0 none
  |ow _ _ _ b x bo ad7 h' hb hl =>
   have:iI=[]:=rz (by simpa using hl0);subst this;exact jf.nil sz 0 (some ⟨b,x,none⟩)
  |ref _ _ _ _ b o cap cap' ad7 h' hb hl hc lh =>
   rw[bk]at h';simp at h';subst h';rcases ad6 with⟨h1,_⟩|⟨b',o',DT,cur,t,h1,h2,h3,h4,h5,h6⟩
   ·rw[hb]at h1;simp at h1
   ·rw[hb]at h1;simp at h1;obtain⟨rfl,rfl,rfl⟩:=h1;have hlen:((rows.drop off).take len).length=len:=aar;have qm:∀ r c v,cellAt ((rows.drop off).take len) r c=some v->cellAt rows (off+r) c=some v/\r<len:=by
     intro r c v hv;simp only[cellAt,List.getElem?_take,List.getElem?_drop]at hv;split at hv
     ·exact⟨hv,by assumption⟩
     ·simp at hv
    have Kl:γc.Z b:=KO id b o cap tF cY hb;have:=jf.tree (w:=γc.w) (Z:=γc.Z) sz iI b (o+off*sz) cap' (λr c=>cur.getD (o+((off+r)*sz+c)) Go.undef) Kl
     GX (by rw[hl0,hlen];exact lh)
     (λr c v hv=>by
      obtain⟨rJ,hr⟩:=qm r c _ (v3 r c v hv);obtain⟨uF,ln⟩:=DU cD rJ;have br:=Ap (show off+r<cap by omega) ln;rw[hw];have e:o+off*sz+(r*sz+c)=o+((off+r)*sz+c):=by rw[Nat.add_mul];omega
      rw[e];exact BZ h2 GC)
     (λr c v hv=>by
      obtain⟨rJ,_⟩:=qm r c _ (v3 r c v hv);exact ih r c v hv _ (h6 _ _ _ rJ))
    rw[hl0,hlen]at this;exact this
def aJ.rel{σ:St}{γ:Cx}(h:bS σ γ){kp:Nat->Prop}{ρ:Nat->Nat}{cp:List Ob}{snap:Bool}{γc:Cx}(hz:∀ b,γ.Z b->γc.Z b)(hw:γc.w=γ.w)(KO:snap=true->∀ id b o cap,¬ kp id->Live σ.aa id->γ.blk id=some (b,o,cap)->γc.Z b)(ho:∀ j x,σ.aa[ρ j]?=some x->∃ o,cp[j]?=some o/\(o=.gone\/(x=cg ρ o/\γc.blk j=γ.blk (ρ j)))){c d:AV}(ha:aJ σ kp ρ snap c d):∀ cv,aC σ.aa γ.w γ.Z γ.blk d cv->aC cp γc.w γc.Z γc.blk c cv:=by
 induction ha with
 |same v =>
  intro cv hv;rw[hw];exact hv.down hz ho v rfl
 |snap c d hs hf =>
  intro cv hv;exact .cC _ _ (hf.DF h hz hw (KO hs) cv hv)
 |agg cs ds hl _ ih =>
  intro cv hv;obtain⟨bG,rfl,h1,h2⟩:=hv.Rs;refine .agg cs bG GC (λj x hx=>?_);have hj:j<ds.length:=by have:=(a8.1 hx).1;omega
  exact ih j x ds[j] hx (by simp[hj]) _ (h2 j _ (by simp[hj]))
 |bJ cs ds hl _ ih =>
  intro cv hv;obtain⟨bG,rfl,h1,h2⟩:=hv.Rt;refine .bJ cs bG GC (λj x hx=>?_);have hj:j<ds.length:=by have:=(a8.1 hx).1;omega
  exact ih j x ds[j] hx (by simp[hj]) _ (h2 j _ (by simp[hj]))
def Ru{n:Nat}{au:List Nat}(_hs:∀ i∈au,i<n){j:Nat}(h:bL n au j<n):j<au.length/\bL n au j=au.getD j 0:=by
 unfold bL at h ⊢;split
 ·exact⟨by assumption,rfl⟩
 ·rename_i hj;rw[if_neg hj]at h;omega
def ay{au:List Nat}{j:Nat}(h:j<au.length):au.getD j 0∈au:=by
 rw[aA];simp[h]
def Rv{au:List Nat}(hn:au.Nodup){i j:Nat}(hi:i<au.length)(hj:j<au.length)(h:au.getD i 0=au.getD j 0):i=j:=by
 rw[aA,aA]at h;simp[hi,hj]at h;exact(List.getElem_inj hn).1 h
def Hf{au:List Nat}{i:Nat}(h:i∈au):∃j,j<au.length/\au.getD j 0=i:=by
 obtain⟨j,hj⟩:=List.mem_iff_getElem?.1 h;have:=(a8.1 hj).1;exact⟨j,this,by rw[aA,hj];rfl⟩
def fh(P:Program)(f:FuncId)(args:List AV)(aa:List Ob)(jk:AV->List Ob->Prop):Prop :=
 Rr P f/\∀ γ:Cx,γ.tmps.size=args.length->bS ⟨λk=>args.getD k .undef,aa⟩ γ ->
  Calls P f γ.tmps γ.w (λe w'=>∃ res bI cv aO,jk res bI/\e=.returned cv/\aO.w=w'/\aO.tmps = #[cv]/\bS ⟨λk=>[res].getD k .undef,bI⟩ aO/\Fr aa γ bI aO)
def KP(P:Program)(f:FuncId)(args:List AV)(σ:St)(K:AV->St->Prop):Prop :=
 ∃ (au:List Nat) (snap:Bool) (ec:List AV) (cp:List Ob) (jk:AV->List Ob->Prop),fh P f ec cp jk /\
  (au.Nodup/\cp.length=au.length/\(∀ (j:Nat) o,cp[j]?=some o->σ.aa[au.getD j 0]?=some (cg (bL σ.aa.length au) o)) /\
   ec.length=args.length/\(∀ (j:Nat) c d,ec[j]?=some c->args[j]?=some d->aJ σ (·∈au) (bL σ.aa.length au) snap c d)) /\
  ∀ res dh,jk res dh->(snap=true->flat res=true/\∀ o∈dh,xB o) /\
   K (bC (bL σ.aa.length au) res) { σ with aa:=eS σ.aa au (dh.map (cg (bL σ.aa.length au))) }
def Rx{σ:St}{γ:Cx}(h:bS σ γ){f:FuncId}{args:List AV}{argv:Array Value}(bx:argv.size=args.length)(KQ:∀ (j:Nat) d,args[j]?=some d->aC σ.aa γ.w γ.Z γ.blk d (argv.getD j Go.undef)){K:AV->St->Prop}(hc:KP P f args σ K):
  Calls P f argv γ.w (λe w'=>∃ cv v σ' aO,e=.returned cv/\aO.w=w'/\aO.tmps=γ.tmps/\bS σ' aO/\Fr σ.aa γ σ'.aa aO/\aC σ'.aa aO.w aO.Z aO.blk v cv/\K v σ'/\σ'.env=σ.env):=by
 obtain⟨au,snap,ec,cp,jk,hH,⟨bX,cm,kR,fX,oX⟩,hKP⟩:=hc;have fM:∀ i∈au,i<σ.aa.length:=by
  intro i hi;obtain⟨j,hj,rfl⟩:=Hf hi;have:j<cp.length:=GC;exact(a8.1 (kR j cp[j] (by simp[this]))).1
 let ρ:=bL σ.aa.length au
 let S:Nat->Prop:=λb=>snap=true/\∃ id o cap,id ∉ au/\Live σ.aa id/\γ.blk id=some (b,o,cap)
 let γc:Cx:={ w:=γ.w,tmps:=argv,Z:=λb=>γ.Z b\/S b,blk:=λj=>if j<au.length then γ.blk (au.getD j 0) else none }
 have xD:∀ j x,σ.aa[ρ j]?=some x->∃ o,cp[j]?=some o/\(o=.gone\/(x=cg ρ o/\γc.blk j=γ.blk (ρ j))):=by
  intro j x hx;obtain⟨hj,hr⟩:=Ru fM (a8.1 hx).1;have nQ:j<cp.length:=GC;have:=kR j cp[j] (by simp[nQ]);refine⟨cp[j],by simp[nQ],.inr ⟨?_,?_⟩⟩
  ·have dw:σ.aa[bL σ.aa.length au j]?=some x:=hx;rw[hr,this]at dw;simpa using dw.symm
  ·show(if j<au.length then γ.blk (au.getD j 0) else none)=γ.blk (bL σ.aa.length au j);rw[if_pos hj,hr]
 have kS:∀ b,γ.Z b->γc.Z b:=λb hb=>.inl hb;have v9:∀ j,Live cp j->Live σ.aa (au.getD j 0)/\j<au.length:=by
  rintro j⟨o,ho,hg⟩;have hj:=(a8.1 ho).1;exact⟨⟨_,kR j o ho,λe=>hg (DR.1 e)⟩,GC⟩
 have qx:=λ{i b o c}=>h.blt (i:=i) (b:=b) (o:=o) (c:=c);have KR:bS ⟨λk=>ec.getD k .undef,cp⟩ γc:=by
  refine⟨λk=>?_,?_,?_,?_,?_⟩
  ·rcases fK k ec.length with hk|hk
   ·have e:ec.getD k .undef=ec[k]:=by simp[hk]
    show aC cp γc.w γc.Z γc.blk (ec.getD k .undef) _;rw[e];have o6:k<args.length:=GC;exact(oX k ec[k] args[k] (by simp[hk]) (by simp[o6])).rel h kS rfl (λhs id b o cap dt hl hb=>.inr ⟨hs,id,o,cap,dt,hl,hb⟩) xD _ (KQ k _ (by simp[o6]))
   ·have e:ec.getD k .undef=.undef:=by simp[hk]
    show aC cp γc.w γc.Z γc.blk (ec.getD k .undef) _;rw[e];exact .undef _
  ·intro j o ho;have hj:=(a8.1 ho).1;have DV:j<au.length:=by rw[<- cm];exact hj
   have bk:=h.fL _ _ (kR j o ho);have hb:γc.blk j=γ.blk (au.getD j 0):=by show(if j<au.length then _ else _)=_;rw[if_pos DV]
   cases o with
   |gone=>trivial
   |var cells =>
    obtain⟨b,cap,cur,t,h1,h2,h3,h4⟩:=bk;exact⟨b,cap,cur,t,hb.trans h1,h2,by simpa using h3,λc v hv=>(h4 c (bC ρ v) (by simp[hv];rfl)).down kS xD v rfl⟩
   |mp ag L =>
    obtain⟨b,f,h1,h2,h3,h4⟩:=bk;refine⟨b,f,hb.trans h1,?_,λp hp=>h3 (p.1,bC ρ p.2) (Gw (f:=λp:List Int×AV=>(p.1,bC ρ p.2)) hp),λj p hp=>(h4 j (p.1,bC ρ p.2) (by simp only[cj,hp];rfl)).down kS xD p.2 rfl⟩;rw[KS,dX]at h2;exact h2
   |arr sz rows =>
    obtain⟨h0,hr,bk⟩:=bk;refine⟨h0,λrow bq=>by simpa using hr (row.map (bC ρ)) (Gw bq),?_⟩;rcases bk with⟨h1,h2⟩|⟨b,o,cap,cur,t,h1,h2,h3,h4,h5,h6⟩
    ·exact .inl ⟨hb.trans h1,by simpa using h2⟩
    ·refine .inr ⟨b,o,cap,cur,t,hb.trans h1,h2,h3,by simpa using h4,h5,λr c v hv=>(h6 r c (bC ρ v) ?_).down kS xD v rfl⟩;simp only[cellAt,cj]at hv ⊢;cases cE:rows[r]? with
     |none=>simp[cE]at hv
     |some row=>simp[cE]at hv ⊢;exact⟨v,hv,rfl⟩
  ·intro i j b o c o' c' hi hj iw iW;obtain⟨h1,h2⟩:=v9 i hi;obtain⟨h3,h4⟩:=v9 j hj;have e1:γc.blk i=γ.blk (au.getD i 0):=by show(if i<au.length then _ else _)=_;rw[if_pos h2]
   have e2:γc.blk j=γ.blk (au.getD j 0):=by show(if j<au.length then _ else _)=_;rw[if_pos h4]
   exact Rv bX h2 h4 (h.inj _ _ b o c o' c' h1 h3 (e1▸iw) (e2▸iW))
  ·rintro b ⟨i,o,c,hi,hb⟩ hz;obtain⟨h1,h2⟩:=v9 i hi;have e1:γc.blk i=γ.blk (au.getD i 0):=by show(if i<au.length then _ else _)=_;rw[if_pos h2]
   rw[e1]at hb;rcases hz with hz|⟨_,id,o',cap',dt,hl,du⟩
   ·exact h.nz b ⟨_,o,c,h1,hb⟩ hz
   ·have:=h.inj _ _ b o c o' cap' h1 hl hb du;exact dt (this▸ay h2)
  ·rintro b (hb|⟨_,id,o,cap,_,hl,hb⟩)
   ·exact h.jh b hb
   ·exact qx hl hb
 have kT:=hH.2 γc (by show argv.size=_;omega) KR;refine kT.mono ?_;rintro e w'⟨res,dh,cv,aO,KT,rfl,rfl,yM,jg,gX⟩;obtain⟨Ry,hK⟩:=hKP res dh KT;have ad9:au.length<=dh.length:=by have:=gX.len;omega
 let new:=dh.map (cg ρ)
 have an:au.length<=new.length:=by simpa [new] using ad9
 let qy:=eS σ.aa au new
 let j9:Cx:={ w:=aO.w,tmps:=γ.tmps,Z:=λb=>aO.Z b/\¬ S b,blk:=λi=>if i<σ.aa.length then γ.blk i else aO.blk (au.length+(i-σ.aa.length)) }
 have DW:∀ j o,dh[j]?=some o->qy[ρ j]?=some (cg ρ o)/\(o≠.gone->j9.blk (ρ j)=aO.blk j):=by
  intro j o ho;by_cases hj:j<au.length
  ·have e:ρ j=au.getD j 0:=by show bL _ _ _=_;simp only[bL];rw[if_pos hj]
   have bO:=fM _ (ay hj);refine⟨?_,λhg=>?_⟩
   ·rw[e];show(eS σ.aa au new)[au.getD j 0]?=_;rw[G6 au σ.aa new an bX fM j hj];simp[new,ho]
   ·rw[e];show(if au.getD j 0<σ.aa.length then _ else _)=_;rw[if_pos bO];have:=(gX.mL j GC ⟨o,ho,hg⟩).1;rw[this];show _=if j<au.length then _ else _;rw[if_pos hj]
  ·have e:ρ j=σ.aa.length+(j-au.length):=by show bL _ _ _=_;simp only[bL];rw[if_neg hj]
   have e2:au.length+(j-au.length)=j:=GC;refine⟨?_,λhg=>?_⟩
   ·rw[e];show(eS σ.aa au new)[_]?=_;rw[Qh au σ.aa new an,e2];simp[new,ho]
   ·rw[e];show(if σ.aa.length+(j-au.length)<σ.aa.length then _ else aO.blk (au.length+(σ.aa.length+(j-au.length)-σ.aa.length)))=_;rw[if_neg GC];congr 1;omega
 have Rz:∀ b,S b->¬ γ.Z b:=by
  rintro b⟨_,id,o,cap,_,hl,hb⟩;exact h.nz b ⟨id,o,cap,hl,hb⟩
 have B0:∀ b,qz cp γc.blk b->∃ i∈au,∃ o cap,Live σ.aa i/\γ.blk i=some (b,o,cap):=by
  rintro b⟨j,o,c,hl,hb⟩;obtain⟨h1,h2⟩:=v9 j hl;have e1:γc.blk j=γ.blk (au.getD j 0):=by show(if j<au.length then _ else _)=_;rw[if_pos h2]
  exact⟨_,ay h2,o,c,h1,e1▸hb⟩
 have aea:∀ i,i ∉ au->Live σ.aa i->∀ b o c,γ.blk i=some (b,o,c)->aO.w.heap[b]?=γ.w.heap[b]?:=by
  intro i hi hl b o c hb;refine gX.az b (qx hl hb) (λho=>?_);obtain⟨i',hi',o',c',jT,du⟩:=B0 b ho;have:=h.inj _ _ b o c o' c' hl jT hb du;exact hi (this▸hi')
 have RA:∀ v cv,aC σ.aa γ.w γ.Z γ.blk v cv->aC qy j9.w j9.Z j9.blk v cv:=by
  intro v cv hv;refine hv.mono (λb hb=>⟨⟨gX.z0 b (kS b hb),λhs=>Rz b hs hb⟩,?_⟩) (λi o ho=>?_)
  ·refine gX.az b (h.jh b hb) (λho=>?_);obtain⟨i',_,o',c',jT,du⟩:=B0 b ho;exact h.nz b ⟨i',o',c',jT,du⟩ hb
  ·have hi:=(a8.1 ho).1;have ik:j9.blk i=γ.blk i:=by show(if i<σ.aa.length then _ else _)=_;rw[if_pos hi]
   by_cases o7:i∈au
   ·obtain⟨j,hj,rfl⟩:=Hf o7;have nQ:j<dh.length:=GC;have Aq:qy[au.getD j 0]?=some (cg ρ dh[j]):=by
     show(eS σ.aa au new)[au.getD j 0]?=_;rw[G6 au σ.aa new an bX fM j hj];simp[new,nQ]
    by_cases hg:dh[j]=.gone
    ·left;rw[Aq,hg];rfl
    ·right;refine⟨ik,_,Aq,?_⟩;obtain⟨_,x,x',hx,dw,iX⟩:=gX.mL j GC ⟨dh[j],by simp[nQ],hg⟩;have e1:dh[j]=x':=by simpa [nQ] using dw
     have e2:=kR j x hx;rw[ho]at e2;simp at e2;rw[e1,e2];exact Ob.ad4 iX
   ·have Aq:qy[i]?=some o:=by
     show(eS σ.aa au new)[i]?=_;rw[Hd au σ.aa new an i o7 hi];exact ho
    by_cases hg:o=.gone
    ·subst hg;exact .inl Aq
    ·exact .inr ⟨ik,o,Aq,Ob.lk hg⟩
 have Hg:∀ v cv,aC dh aO.w aO.Z aO.blk v cv->(snap=true->flat v=true)->aC qy j9.w j9.Z j9.blk (bC ρ v) cv:=by
  intro v cv hv fC;by_cases mi:snap=true
  ·exact(hv.ad3 (Z':=j9.Z) (fC mi)).up (λb hb=>hb) DW
  ·exact hv.up (λb hb=>⟨hb,λhs=>mi hs.1⟩) DW
 have mj:∀ i,Live qy i->(i<σ.aa.length/\i ∉ au/\Live σ.aa i/\j9.blk i=γ.blk i)\/∃ j,Live dh j/\i=ρ j/\j9.blk i=aO.blk j:=by
  rintro i⟨o,ho,hg⟩;have hlen:=(a8.1 ho).1;have G7:qy.length=σ.aa.length+(new.length-au.length):=KE au σ.aa new an;have Hh:new.length=dh.length:=by simp[new]
  rcases fK i σ.aa.length with hi|hi
  ·by_cases o7:i∈au
   ·right;obtain⟨j,hj,rfl⟩:=Hf o7;have nQ:j<dh.length:=GC;have e:ρ j=au.getD j 0:=by show bL _ _ _=_;simp only[bL];rw[if_pos hj]
    have hx:=DW j dh[j] (by simp[nQ]);rw[e]at hx;rw[ho]at hx;simp only[dI.injEq]at hx;have tJ:dh[j]≠.gone:=by intro h0;apply hg;rw[hx.1,h0];rfl
    exact⟨j,⟨_,by simp[nQ],tJ⟩,e.symm,hx.2 tJ⟩
   ·left;have:qy[i]?=σ.aa[i]?:=Hd au σ.aa new an i o7 hi;rw[this]at ho;exact⟨hi,o7,⟨o,ho,hg⟩,by show(if i<σ.aa.length then _ else _)=_;rw[if_pos hi]⟩
  ·right;have nQ:au.length+(i-σ.aa.length)<dh.length:=GC;have e:ρ (au.length+(i-σ.aa.length))=i:=by
    show bL _ _ _=_;simp only[bL];rw[if_neg GC];omega
   have hx:=DW _ _ (show dh[au.length+(i-σ.aa.length)]?=some dh[au.length+(i-σ.aa.length)] by simp[nQ]);rw[e]at hx;rw[ho]at hx;simp only[dI.injEq]at hx;have tJ:dh[au.length+(i-σ.aa.length)]≠.gone:=by intro h0;apply hg;rw[hx.1,h0];rfl
   exact⟨_,⟨_,by simp[nQ],tJ⟩,e.symm,hx.2 tJ⟩
 have KU:∀ j b o c,Live dh j->aO.blk j=some (b,o,c)->(∃ i∈au,∃ o cap,Live σ.aa i/\γ.blk i=some (b,o,cap))\/γ.w.heap.size<=b:=by
  intro j b o c hl hb;rcases gX.own b ⟨j,o,c,hl,hb⟩ with h1|h1
  ·exact .inl (B0 b h1)
  ·exact .inr h1
 have aeb:bS ⟨σ.env,qy⟩ j9:=by
  refine⟨λk=>RA _ _ (h.aw k),?_,?_,?_,?_⟩
  ·intro i o ho;by_cases bP:o=.gone
   ·subst bP;trivial
   rcases mj i ⟨o,ho,bP⟩ with⟨hi,o7,hl,ik⟩|⟨j,⟨x,hx,eJ⟩,rfl,ik⟩
   ·have he:qy[i]?=σ.aa[i]?:=Hd au σ.aa new an i o7 hi;have cG:σ.aa[i]?=some o:=by rw[<- he];exact ho
    exact(h.fL i o cG).mono RA ik (λb o c hb=>aea i o7 hl b o c hb)
   ·have KV:=(DW j x hx).1;have e:o=cg ρ x:=by
     have:qy[ρ j]?=some o:=ho;rw[KV]at this;simpa using this.symm
    subst e;have bk:=jg.fL j x hx;have fC:snap=true->xB x:=λhs=>(Ry hs).2 x (iD hx);cases x with
    |gone=>trivial
    |var cells =>
     obtain⟨b,cap,cur,t,h1,h2,h3,h4⟩:=bk;refine⟨b,cap,cur,t,ik.trans h1,h2,by simpa using h3,λc v hv=>?_⟩;simp only[cj,BC]at hv;obtain⟨y,hy,rfl⟩:=hv;exact Hg _ _ (h4 c y hy) (λhs=>fC hs y (iD hy))
    |mp ag L =>
     obtain⟨b,f,h1,h2,h3,h4⟩:=bk;refine⟨b,f,ik.trans h1,?_,λp hp=>?_,λj p hp=>?_⟩
     ·rw[KS,dX];exact h2
     ·obtain⟨y,hy,rfl⟩:=cz.1 hp;exact h3 y hy
     ·simp only[cj,BC]at hp;obtain⟨y,hy,rfl⟩:=hp;exact Hg _ _ (h4 j y hy) (λhs=>fC hs y (iD hy))
    |arr sz rows =>
     obtain⟨h0,hr,bk⟩:=bk;refine⟨h0,?_,?_⟩
     ·intro row bq;simp only[cz]at bq;obtain⟨y,hy,rfl⟩:=bq;simpa using hr y hy
     ·rcases bk with⟨h1,h2⟩|⟨b,o,cap,cur,t,h1,h2,h3,h4,h5,h6⟩
      ·exact .inl ⟨ik.trans h1,by simpa using h2⟩
      ·refine .inr ⟨b,o,cap,cur,t,ik.trans h1,h2,h3,by simpa using h4,h5,λr c v hv=>?_⟩;simp only[cellAt,cj]at hv;cases cE:rows[r]? with
       |none=>simp[cE]at hv
       |some row =>
        simp only[cE,fl,Option.bind_some,cj,BC]at hv;obtain⟨y,hy,rfl⟩:=hv;exact Hg _ _ (h6 r c y (by simp[cellAt,cE,hy])) (λhs=>fC hs row (iD cE) y (iD hy))
  ·intro i j b o c o' c' hi hj iw iW;rcases mj i hi with⟨gD,o7,uP,ik⟩|⟨ji,B1,rfl,ik⟩<;>rcases mj j hj with⟨lK,DV,tK,DX⟩|⟨jj,RC,rfl,DX⟩
   ·exact h.inj i j b o c o' c' uP tK (ik▸iw) (DX▸iW)
   ·rw[ik]at iw;rw[DX]at iW;rcases KU jj b o' c' RC iW with⟨i',hi',o1,c1,jT,du⟩|nR
    ·exact absurd (h.inj i i' b o c o1 c1 uP jT iw du) (λe=>o7 (e▸hi'))
    ·have:=qx uP iw;omega
   ·rw[ik]at iw;rw[DX]at iW;rcases KU ji b o c B1 iw with⟨i',hi',o1,c1,jT,du⟩|nR
    ·exact absurd (h.inj j i' b o' c' o1 c1 tK jT iW du) (λe=>DV (e▸hi'))
    ·have:=qx tK iW;omega
   ·rw[ik]at iw;rw[DX]at iW;rw[jg.inj ji jj b o c o' c' B1 RC iw iW]
  ·rintro b ⟨i,o,c,hi,hb⟩ ⟨hz,yW⟩;rcases mj i hi with⟨gD,o7,uP,ik⟩|⟨ji,B1,rfl,ik⟩
   ·rw[ik]at hb;rcases gX.z1 b hz with(h1|h1)|h1|h1
    ·exact h.nz b ⟨i,o,c,uP,hb⟩ h1
    ·exact yW h1
    ·obtain⟨i',hi',o1,c1,jT,du⟩:=B0 b h1;exact o7 ((h.inj i i' b o c o1 c1 uP jT hb du)▸hi')
    ·have:=qx uP hb;have Ar:γ.w.heap.size<=b:=h1;omega
   ·rw[ik]at hb;exact jg.nz b ⟨ji,o,c,B1,hb⟩ hz
  ·rintro b ⟨hz,_⟩;exact jg.jh b hz
 refine⟨cv,bC ρ res,⟨σ.env,qy⟩,j9,rfl,rfl,rfl,aeb,?_,?_,hK,rfl⟩
 ·refine⟨gX.oh,gX.tape,gX.output,gX.size,?_,?_,?_,?_,?_,?_⟩
  ·intro b hb nS;refine gX.az b hb (λho=>nS ?_);obtain⟨i',_,o1,c1,jT,du⟩:=B0 b ho;exact⟨i',o1,c1,jT,du⟩
  ·intro b hb;exact⟨gX.z0 b (kS b hb),λhs=>Rz b hs hb⟩
  ·rintro b ⟨hz,yW⟩;rcases gX.z1 b hz with(h1|h1)|h1|h1
   ·exact .inl h1
   ·exact absurd h1 yW
   ·obtain⟨i',_,o1,c1,jT,du⟩:=B0 b h1;exact .inr (.inl ⟨i',o1,c1,jT,du⟩)
   ·exact .inr (.inr h1)
  ·rintro b ⟨i,o,c,hi,hb⟩;rcases mj i hi with⟨gD,o7,uP,ik⟩|⟨ji,B1,rfl,ik⟩
   ·rw[ik]at hb;exact .inl ⟨i,o,c,uP,hb⟩
   ·rw[ik]at hb;rcases KU ji b o c B1 hb with⟨i',_,o1,c1,jT,du⟩|nR
    ·exact .inl ⟨i',o1,c1,jT,du⟩
    ·exact .inr nR
  ·show σ.aa.length<=(eS σ.aa au new).length;rw[KE au σ.aa new an];omega
  ·rintro i hi ⟨o,ho,hg⟩;refine⟨by show(if i<σ.aa.length then _ else _)=_;rw[if_pos hi],?_⟩;by_cases o7:i∈au
   ·obtain⟨j,hj,rfl⟩:=Hf o7;have nQ:j<dh.length:=GC;have Aq:qy[au.getD j 0]?=some (cg ρ dh[j]):=by
     show(eS σ.aa au new)[au.getD j 0]?=_;rw[G6 au σ.aa new an bX fM j hj];simp[new,nQ]
    have eX:qy[au.getD j 0]?=some o:=ho;rw[Aq]at eX;simp only[dI.injEq]at eX;have tJ:dh[j]≠.gone:=by intro h0;apply hg;rw[<- eX,h0];rfl
    obtain⟨_,x,x',hx,dw,iX⟩:=gX.mL j GC ⟨dh[j],by simp[nQ],tJ⟩;have e1:dh[j]=x':=by simpa [nQ] using dw
    refine⟨cg ρ x,o,kR j x hx,ho,?_⟩;rw[<- eX,e1];cases x<;>cases x'<;>simp_all [Ob.fB,cg]
   ·have he:qy[i]?=σ.aa[i]?:=Hd au σ.aa new an i o7 hi;have cG:σ.aa[i]?=some o:=by rw[<- he];exact ho
    exact⟨o,o,cG,ho,Ob.lk hg⟩
 ·have:=jg.aw 0;rw[yM]at this;exact Hg res cv (by simpa using this) (λhs=>(Ry hs).1)
def ao.r{f:FuncId}{args:List AV}{aa:List Ob}{res:AV}{bI:List Ob}(h:ao P f args aa res bI):fh P f args aa (λr os=>r=res/\os=bI) :=
 ⟨h.1,λγ bx hs=>(h.2 γ bx hs).mono λ_ _ ⟨cv,aO,h1,h2,h3,h4,h5⟩=>⟨res,bI,cv,aO,⟨rfl,rfl⟩,h1,h2,h3,h4,h5⟩⟩
def He.r{f:FuncId}{args:List AV}{σ:St}{K:AV->St->Prop}(h:He P f args σ K):KP P f args σ K:=by
 obtain⟨au,snap,ec,cp,res,dh,h1,⟨h2,h3,h4,h5,h6,h7⟩,h8⟩:=h;exact⟨au,snap,ec,cp,_,h1.r,⟨h2,h3,h4,h5,h6⟩,λr os ⟨e1,e2⟩=>by subst e1;subst e2;exact⟨h7,h8⟩⟩
def RD{σ:St}{γ:Cx}(h:bS σ γ){f:FuncId}{args:List AV}{argv:Array Value}(bx:argv.size=args.length)(KQ:∀ (j:Nat) d,args[j]?=some d->aC σ.aa γ.w γ.Z γ.blk d (argv.getD j Go.undef)){K:AV->St->Prop}(hc:He P f args σ K):
  Calls P f argv γ.w (λe w'=>∃ cv v σ' aO,e=.returned cv/\aO.w=w'/\aO.tmps=γ.tmps/\bS σ' aO/\Fr σ.aa γ σ'.aa aO/\aC σ'.aa aO.w aO.Z aO.blk v cv/\K v σ'/\σ'.env=σ.env) :=
 Rx h bx KQ hc.r
end Go.Am
namespace Go.Am
variable {P:Program}
def bS.select{σ:St}{γ:Cx}(h:bS σ γ)(au:List Nat)(snap:Bool)(cp:List Ob)(bX:au.Nodup)(cm:cp.length=au.length)(kR:∀ (j:Nat) o,cp[j]?=some o->o=.gone\/σ.aa[au.getD j 0]?=some (cg (bL σ.aa.length au) o))(fM:∀ i∈au,i<σ.aa.length)(e:Nat->AV)(tm:Array Value)(he:∀ k,e k=.undef\/∃ d,aJ σ (λid=>∃ j,j<au.length/\au.getD j 0=id/\cp[j]?≠some .gone) (bL σ.aa.length au) snap (e k) d/\aC σ.aa γ.w γ.Z γ.blk d (tm.getD k Go.undef)):
  ∃ aO,aO.w=γ.w/\aO.tmps=tm/\bS ⟨e,cp⟩ aO/\((∀ i,i<cp.length->aO.blk i=γ.blk (au.getD i 0))/\(∀ b,γ.Z b->aO.Z b)/\(∀ b,aO.Z b->γ.Z b\/qz σ.aa γ.blk b) /\
   ∀ i,Live cp i->Live σ.aa (au.getD i 0)/\∃ o,cp[i]?=some o/\σ.aa[au.getD i 0]?=some (cg (bL σ.aa.length au) o)):=by
 let ρ:=bL σ.aa.length au
 let kp:Nat->Prop:=λid=>∃ j,j<au.length/\au.getD j 0=id/\cp[j]?≠some .gone
 let S:Nat->Prop:=λb=>snap=true/\∃ id o cap,¬ kp id/\Live σ.aa id/\γ.blk id=some (b,o,cap)
 let γc:Cx:={ w:=γ.w,tmps:=tm,Z:=λb=>γ.Z b\/S b,blk:=λj=>if j<au.length then γ.blk (au.getD j 0) else none }
 have xD:∀ j x,σ.aa[ρ j]?=some x->∃ o,cp[j]?=some o/\(o=.gone\/(x=cg ρ o/\γc.blk j=γ.blk (ρ j))):=by
  intro j x hx;obtain⟨hj,hr⟩:=Ru fM (a8.1 hx).1;have nQ:j<cp.length:=GC;refine⟨cp[j],by simp[nQ],?_⟩;rcases kR j cp[j] (by simp[nQ]) with hg|this
  ·exact .inl hg
  ·right;refine⟨?_,?_⟩
   ·have dw:σ.aa[bL σ.aa.length au j]?=some x:=hx;rw[hr,this]at dw;simpa using dw.symm
   ·show(if j<au.length then γ.blk (au.getD j 0) else none)=γ.blk (bL σ.aa.length au j);rw[if_pos hj,hr]
 have kS:∀ b,γ.Z b->γc.Z b:=λb hb=>.inl hb;have v9:∀ j,Live cp j->Live σ.aa (au.getD j 0)/\j<au.length/\kp (au.getD j 0)/\∃ o,cp[j]?=some o/\σ.aa[au.getD j 0]?=some (cg ρ o):=by
  rintro j⟨o,ho,hg⟩;have hj:=(a8.1 ho).1;rcases kR j o ho with h'|h'
  ·exact absurd h' hg
  ·exact⟨⟨_,h',λe=>hg (DR.1 e)⟩,GC,⟨j,GC,rfl,by rw[ho];simpa using hg⟩,o,ho,h'⟩
 have sP:∀ j,j<au.length->γc.blk j=γ.blk (au.getD j 0):=λj hj=>by show(if j<au.length then _ else _)=_;rw[if_pos hj]
 have KR:bS ⟨e,cp⟩ γc:=by
  refine⟨λk=>?_,?_,?_,?_,?_⟩
  ·rcases he k with h0|⟨d,hd,hr⟩
   ·show aC cp γc.w γc.Z γc.blk (e k) _;rw[h0];exact .undef _
   ·exact hd.rel h kS rfl (λhs id b o cap dt hl hb=>.inr ⟨hs,id,o,cap,dt,hl,hb⟩) xD _ hr
  ·intro j o ho;by_cases bP:o=.gone
   ·subst bP;trivial
   obtain⟨_,DV,_,o',cG,aec⟩:=v9 j ⟨o,ho,bP⟩;have:o=o':=by
    have h1:cp[j]?=some o:=ho;rw[cG]at h1;simpa using h1.symm
   subst this;have bk:=h.fL _ _ aec;have hb:=sP j DV;cases o with
   |gone=>trivial
   |var cells =>
    obtain⟨b,cap,cur,t,h1,h2,h3,h4⟩:=bk;exact⟨b,cap,cur,t,hb.trans h1,h2,by simpa using h3,λc v hv=>(h4 c (bC ρ v) (by simp only[cj,hv];rfl)).down kS xD v rfl⟩
   |mp ag L =>
    obtain⟨b,f,h1,h2,h3,h4⟩:=bk;refine⟨b,f,hb.trans h1,?_,λp hp=>h3 (p.1,bC ρ p.2) (Gw (f:=λp:List Int×AV=>(p.1,bC ρ p.2)) hp),λj p hp=>(h4 j (p.1,bC ρ p.2) (by simp only[cj,hp];rfl)).down kS xD p.2 rfl⟩;rw[KS,dX]at h2;exact h2
   |arr sz rows =>
    obtain⟨h0,hr,bk⟩:=bk;refine⟨h0,λrow bq=>by simpa using hr (row.map (bC ρ)) (Gw bq),?_⟩;rcases bk with⟨h1,h2⟩|⟨b,o,cap,cur,t,h1,h2,h3,h4,h5,h6⟩
    ·exact .inl ⟨hb.trans h1,by simpa using h2⟩
    ·refine .inr ⟨b,o,cap,cur,t,hb.trans h1,h2,h3,by simpa using h4,h5,λr c v hv=>(h6 r c (bC ρ v) ?_).down kS xD v rfl⟩;simp only[cellAt,cj]at hv ⊢;cases cE:rows[r]? with
     |none=>simp[cE]at hv
     |some row=>simp[cE]at hv ⊢;exact⟨v,hv,rfl⟩
  ·intro i j b o c o' c' hi hj iw iW;obtain⟨h1,h2,_⟩:=v9 i hi;obtain⟨h3,h4,_⟩:=v9 j hj;exact Rv bX h2 h4 (h.inj _ _ b o c o' c' h1 h3 (sP i h2▸iw) (sP j h4▸iW))
  ·rintro b ⟨i,o,c,hi,hb⟩ hz;obtain⟨h1,h2,h3,_⟩:=v9 i hi;rw[sP i h2]at hb;rcases hz with hz|⟨_,id,o',cap',dt,hl,du⟩
   ·exact h.nz b ⟨_,o,c,h1,hb⟩ hz
   ·have:=h.inj _ _ b o c o' cap' h1 hl hb du;exact dt (this▸h3)
  ·rintro b (hb|⟨_,id,o,cap,_,hl,hb⟩)
   ·exact h.jh b hb
   ·exact h.blt hl hb
 refine⟨γc,rfl,rfl,KR,λi hi=>sP i GC,kS,?_,?_⟩
 ·rintro b (hb|⟨_,id,o,cap,_,hl,hb⟩)
  ·exact .inl hb
  ·exact .inr ⟨id,o,cap,hl,hb⟩
 ·intro i hi;obtain⟨h1,h2,_,h4⟩:=v9 i hi;exact⟨h1,h4⟩
def Ob.aed{ρ:Nat->Nat}{x o:Ob}(h:x.fB (cg ρ o)):x.fB o:=by
 cases x<;>cases o<;>simp[Ob.fB,cg]at h ⊢<;>exact h
def Fr.select{os:List Ob}{γ0 γ aO:Cx}{σ:St}(hf:Fr os γ0 σ.aa γ){au:List Nat}{cp:List Ob}(hn:os.length<=au.length)(cm:cp.length=au.length)(dt:∀ i,i<os.length->au.getD i 0=i)(hw:aO.w=γ.w)(h:(∀ i,i<cp.length->aO.blk i=γ.blk (au.getD i 0))/\(∀ b,γ.Z b->aO.Z b)/\(∀ b,aO.Z b->γ.Z b\/qz σ.aa γ.blk b) /\
   ∀ i,Live cp i->Live σ.aa (au.getD i 0)/\∃ o,cp[i]?=some o/\σ.aa[au.getD i 0]?=some (cg (bL σ.aa.length au) o)):Fr os γ0 cp aO:=by
 obtain⟨h1,h2,h3,h4⟩:=h;refine⟨by rw[hw];exact hf.oh,by rw[hw];exact hf.tape,by rw[hw];exact hf.output,by rw[hw];exact hf.size,by rw[hw];exact hf.az,λb hb=>h2 b (hf.z0 b hb),?_,?_,GC,?_⟩
 ·intro b hb;rcases h3 b hb with h|h
  ·exact hf.z1 b h
  ·rcases hf.own b h with h|h
   ·exact .inr (.inl h)
   ·exact .inr (.inr h)
 ·rintro b ⟨i,o,c,hi,hb⟩;have br:=hi.lt;rw[h1 i br]at hb;exact hf.own b ⟨_,o,c,(h4 i hi).1,hb⟩
 ·intro i hi hl;obtain⟨h5,o,ho,cG⟩:=h4 i hl;rw[dt i hi]at h5 cG;obtain⟨h6,x,x',hx,dw,hk⟩:=hf.mL i hi h5;refine⟨by rw[h1 i hl.lt,dt i hi];exact h6,x,o,hx,ho,?_⟩;rw[cG]at dw;simp only[dI.injEq]at dw;rw[<- dw]at hk;exact Ob.aed hk
def iH(N:Nat)(os:List Ob)(γ0:Cx)(σ:St)(a:Act)(w:World):Prop :=
 a.defers=[]/\a.tmps.size=N/\∃ γ,γ.w=w/\γ.tmps=a.tmps/\bS σ γ/\Fr os γ0 σ.aa γ
def W(P:Program)(N n0:Nat)(c:Code)(Q:Exit->St->Prop)(σ:St):Prop :=
 ∀ (os:List Ob) (γ0:Cx) (a:Act) (w:World),os.length=n0->iH N os γ0 σ a w->c.wp P (λe a' w'=>∃ σ',Q e σ'/\iH N os γ0 σ' a' w') a w
def sK(P:Program)(g:FuncId)(args:List AV)(dst:Option Tmp)(K:St->Prop)(σ:St):Prop:=He P g args σ λv σ'=>K (σ'.put dst v)
def yU(P:Program)(t:TypeId)(m:String):Option (FuncId×Option TypeId) :=
 match P.info? t with
 |none=>none
 |some i =>
  match i.methods.find? (·.name==m) with
  |none=>none
  |some r =>
   match r.path.isEmpty,r.func,P.underlying t with
   |true,some (g,pr),some (.pointer e)=>some (g,if pr then none else some e)
   |_,_,_=>none
def qq(P:Program)(σ:St)(v:AV)(K:FuncId->AV->Prop):Option (FuncId×Option TypeId)->Prop
 |some (g,none)=>K g v
 |some (g,some e) =>
  (ty P e).kind≠99 /\
  match v with
  |.ptr id r c =>
   match rowOf σ id r with
   |some row=>nJ (ty P e) row c λx=>K g x
   |none=>False
  |_=>False
 |none=>False
def aZ(P:Program)(o:Oper)(σ:St)(K:St->Prop):Prop :=
 match o.op with
 |.call { callee:=.value f,args,.. } =>
  match ev σ f with
  |.fn g bj=>sK P g (args.toList.map (ev σ)++bj) o.dst K σ
  |_=>False
 |.call { callee:=.invoke r m,args,.. } =>
  match ev σ r with
  |.jl t v=>qq P σ v (λg x=>sK P g (x::args.toList.map (ev σ)) o.dst K σ) (yU P t m)
  |_=>False
 |_=>cU P o σ K
def pK(P:Program)(o:Oper)(K:St->Prop)(b want:Bool)(σ:St):Prop:=(b=want->aZ P o σ K)/\(b≠want->K (σ.put o.dst (.lit (.tuple #[]))))
def opsL(P:Program)(ops:Array Oper):List Oper->(St->Prop)->St->Prop
 |[],K,σ=>K σ
 |o::r,K,σ =>
  match o.guard with
  |none=>aZ P o σ (opsL P ops r K)
  |some (j,want) =>
   match (ops[j]?).bind (·.dst) with
   |none=>False
   |some d =>
    match σ.env d with
    |.lit (.bool b)=>pK P o (opsL P ops r K) b want σ
    |.lit (.tuple vs)=>vs = #[]/\opsL P ops r K (σ.put o.dst (.lit (.tuple #[])))
    |_=>False
def uI(a:Act)(d:Option Tmp)(v:Value):(a.put d v).tmps.size=a.tmps.size:=by cases d<;>simp[Act.put]
def put_defers(a:Act)(d:Option Tmp)(v:Value):(a.put d v).defers=a.defers:=by cases d<;>rfl
def aee(xt:TypeId)(a:Addr)(x y:String):Builtin.ssaWrapNilChk_ #[xt] xt #[.pointer (some a),strVal x,strVal y]=pure (.pointer (some a)):=rfl
def RE{w:World}{t:TypeId}{i:TypeInfo}(h:P.info? t=some i):(typeInfo t).run P w=.ok i w:=by
 simp[typeInfo,h]
def ext1(x:Value)(A:Array Value):(#[x]++A).extract 1 (#[x]++A).size=A:=by
 apply Array.ext';simp only[Array.toList_extract,List.extract,BA,Array.size_append];simp[List.take_of_length_le]
def aef{σ:St}{γ:Cx}(hs:bS σ γ){t:TypeId}{m:String}{v:AV}{cv:Value}(hv:aC σ.aa γ.w γ.Z γ.blk v cv){K:FuncId->AV->Prop}(h:qq P σ v K (yU P t m)):
  ∃ g x cx,(Go.method (P.types.size+Made.depth) t cv m).run P γ.w=.ok (g,cx) γ.w/\aC σ.aa γ.w γ.Z γ.blk x cx/\K g x:=by
 obtain⟨fu,As⟩:∃fu,P.types.size+Made.depth=fu+1:=Nat.exists_eq_succ_of_ne_zero (by unfold Made.depth;omega);rw[As];unfold Go.method;unfold yU at h;cases hi:P.info? t with
 |none=>simp[hi,qq]at h
 |some i =>
  simp only[hi]at h;cases hf:i.methods.find? (·.name==m) with
  |none=>simp[hf,qq]at h
  |some r =>
   simp only[hf]at h;split at h
   ·rename_i g pr e hp hr hu;have uQ:r.path = #[]:=Array.isEmpty_iff.1 hp;cases pr with
    |true =>
     simp only[if_pos,qq]at h;refine⟨g,v,cv,?_,hv,h⟩;simp[RE hi,hf,uQ,follow,hr,receiverAt,run_underlying hu,Place.get]
    |false =>
     simp only[if_neg,Bool.false_eq_true,not_false_eq_true,qq]at h;obtain⟨hk,h⟩:=h;cases v with
     |ptr id rr c =>
      simp only at h;cases bq:rowOf σ id rr with
      |none=>simp[bq]at h
      |some row =>
       simp only[bq]at h;obtain⟨x,cx,h1,h2,h3⟩:=KW hs hk hv bq h;refine⟨g,x,cx,?_,h2,h3⟩;obtain⟨b,base,cap,cur,tt,o,rfl,_⟩:=Hi hs hv bq;simp only[Instr.loadAt,Instr.sureAddr,Sem.run_bind,Sem.run_pure,Result.andThen_ok]at h1;simp[RE hi,hf,uQ,follow,hr,receiverAt,run_underlying hu,Place.get,aee,asAddr,h1]
     |_=>exact h.elim
   ·exact h.elim
def yN{N:Nat}{os:List Ob}{γ0:Cx}{o:Oper}{σ:St}{K:St->Prop}(h:aZ P o σ K){a:Act}{w:World}(ax:iH N os γ0 σ a w)(hd:∀ d,o.dst=some d->d<N){Q:Exit->Act->World->Prop}{next:Act->World->Prop}(hn:∀ σ' a' w',K σ'->iH N os γ0 σ' a' w'->next a' w'):o.wp P a w next Q:=by
 obtain⟨iU,bx,γ,rfl,ha,hs,hf⟩:=ax;have uR:∀ d,o.dst=some d->d<a.tmps.size:=λd h=>by rw[bx];exact hd d h
 have aeg:cU P o σ K->o.wp P a γ.w next Q:=by
  intro h;obtain⟨n,x,w',σ',aO,hr,KX,hK,jg,gX,nT,lH⟩:=aeh h hs ha uR;unfold Oper.wp;rw[hr];have ed:iH N os γ0 σ' (a.put o.dst x) w':=⟨by rw[put_defers];exact iU,by rw[uI];exact bx,aO,nT,lH,jg,hf.trans gX⟩;rcases KX with rfl|⟨rfl,rfl⟩
  ·exact hn _ _ _ hK ed
  ·exact hn _ _ _ hK ed
 unfold aZ at h;split at h
 ·rename_i f args dC da;split at h
  ·rename_i g bj he;have dZ:=uS hs ha f;rw[he]at dZ;obtain⟨bG,bD,iu,nU⟩:=dZ.RF;have oX:∀ (j:Nat) d,(args.toList.map (ev σ)++bj)[j]?=some d->aC σ.aa γ.w γ.Z γ.blk d (((args.map a.eval)++bG).getD j Go.undef):=by
    intro j d hj;simp only[gm];rcases fK j args.size with br|nR
    ·rw[cT (by simpa using br)]at hj;rw[Gx (by simpa using br)];simp only[cj,Ds,Pl]at hj ⊢;cases hx:args[j]? with
     |none=>simp[hx]at hj
     |some y=>simp[hx]at hj ⊢;subst hj;exact uS hs ha y
    ·rw[fV (by simpa using nR)]at hj;rw[Array.getElem?_append_right (by simpa using nR)];simp only[dX,Array.length_toList,Array.size_map]at hj ⊢;have:=nU _ d hj;simpa [gm] using this
   unfold sK at h;have kT:=RD hs (argv:=(args.map a.eval)++bG) (by simp[iu]) oX h;obtain⟨au,snap,ec,cp,res,dh,⟨⟨fn,xE,sQ,yX⟩,_⟩,_⟩:=h;unfold Oper.wp;have hr:(execOp a.eval o).run P γ.w=.ok (.enter g ((args.map a.eval)++bG)) γ.w:=by
    have gp : ¬ fn.name = "runtime.NumGoroutine" := by simpa using sQ
    have qA:¬ fn.body=none:=by intro e;rw[e]at yX;simp at yX
    simp[execOp,da,resolve,bD,Deferred.ofValue,invoke,callFunc,xE,gp,qA]
   rw[hr];show Calls P g _ _ _;refine kT.mono ?_;rintro e w'⟨cv,v,σ',aO,rfl,rfl,lH,jg,gX,hv,hK,yY⟩;refine hn _ _ _ hK ⟨by rw[put_defers];exact iU,by rw[uI];exact bx,{ aO with tmps:=(a.put o.dst cv).tmps },rfl,rfl,sH jg (by rw[lH,ha]) uR hv,?_⟩;rw[rF];exact(hf.trans gX).put _
  ·exact h.elim
 ·rename_i r m args dC da;split at h
  ·rename_i t v he;have dZ:=uS hs ha r;rw[he]at dZ;obtain⟨Hj,bD,nU⟩:=dZ.RG;obtain⟨g,x,cx,hm,hx,h⟩:=aef hs nU h;have oX:∀ (j:Nat) d,(x::args.toList.map (ev σ))[j]?=some d->aC σ.aa γ.w γ.Z γ.blk d ((#[cx]++args.map a.eval).getD j Go.undef):=by
    intro j d hj;simp only[gm];cases j with
    |zero =>
     simp only[vP,dI.injEq]at hj;subst hj;rw[Gx GF];simpa using hx
    |succ j =>
     simp only[vR,cj,Ds]at hj;rw[Array.getElem?_append_right GF];simp only[List.size_toArray,eB,List.length_nil,Nat.zero_add,Nat.add_sub_cancel,Pl];cases hy:args[j]? with
     |none=>simp[hy]at hj
     |some y=>simp[hy]at hj ⊢;subst hj;exact uS hs ha y
   unfold sK at h;have kT:=RD hs (argv:=#[cx]++args.map a.eval) aar oX h;obtain⟨au,snap,ec,cp,res,dh,⟨⟨fn,xE,sQ,yX⟩,_⟩,_⟩:=h;unfold Oper.wp;have hr:(execOp a.eval o).run P γ.w=.ok (.enter g (#[cx]++args.map a.eval)) γ.w:=by
    have gp : ¬ fn.name = "runtime.NumGoroutine" := by simpa using sQ
    have qA:¬ fn.body=none:=by intro e;rw[e]at yX;simp at yX
    have e0:(#[Value.iface t Hj]++args.map a.eval)[0]?=some (.iface t Hj):=by rw[Gx GF];simp
    have e1:=ext1 (.iface t Hj) (args.map a.eval);have e2:(callMethod (.iface t Hj) m (args.map a.eval)).run P γ.w=.ok (.enter g (#[cx]++args.map a.eval)) γ.w:=by
     unfold callMethod;simp only[Sem.run_bind,run_program,Result.andThen_ok,hm];simp[callFunc,xE,gp,qA]
    simp only[execOp,da,resolve,bD,pure_bind,invoke,e0,e1];exact e2
   rw[hr];show Calls P g _ _ _;refine kT.mono ?_;rintro e w'⟨cv,v,σ',aO,rfl,rfl,lH,jg,gX,hv,hK,yY⟩;refine hn _ _ _ hK ⟨by rw[put_defers];exact iU,by rw[uI];exact bx,{ aO with tmps:=(a.put o.dst cv).tmps },rfl,rfl,sH jg (by rw[lH,ha]) uR hv,?_⟩;rw[rF];exact(hf.trans gX).put _
  ·exact h.elim
 ·exact aeg h
def DY{N:Nat}{os:List Ob}{γ0:Cx}{ops:Array Oper}(hd:∀ o∈ops.toList,∀ d,o.dst=some d->d<N){K:St->Prop}{Q:Exit->Act->World->Prop}(hQ:∀ σ' a' w',K σ'->iH N os γ0 σ' a' w'->Q .normal a' w'):∀ (l:List Oper) (i:Nat) (σ:St) (a:Act) (w:World),ops.toList.drop i=l->opsL P ops l K σ->iH N os γ0 σ a w ->
   wpOps P ops Q (List.range' i l.length) a w
 |[],i,σ,a,w,_,h,ax=>by simpa [wpOps] using hQ _ _ _ h ax
 |o::r,i,σ,a,w,hl,h,ax=>by
  have hi:ops[i]?=some o:=by
   have:(ops.toList.drop i)[0]?=some o:=by rw[hl];rfl
   simpa using this
  have hr:ops.toList.drop (i+1)=r:=by
   have:=congrArg List.tail hl;simpa [List.tail_drop] using this
  have bO:o∈ops.toList:=iD (by simpa using hi);rw[eB,List.range'_succ,wpOps_cons];unfold wpOp;simp only[hi];unfold opsL at h;cases hg:o.guard with
  |none =>
   simp only[hg]at h;have hw:Region.wanted o (yielded ops a.tmps)=true:=by simp[Region.wanted,hg]
   rw[if_pos hw];left;exact yN h ax (hd o bO) (λσ' a' w' hK ed=>DY hd hQ r (i+1) σ' a' w' hr hK ed)
  |some jw =>
   obtain⟨j,want⟩:=jw;simp only[hg]at h;cases eY:(ops[j]?).bind (·.dst) with
   |none=>simp[eY]at h
   |some d =>
    simp only[eY]at h;split at h
    ·rename_i b he;obtain⟨iU,bx,γ,rfl,ha,hs,hf⟩:=ax;have kP:=hs.aw d;rw[he,ha]at kP;have hv:=kP.dz;have hy:yielded ops a.tmps j=some b:=by
      unfold yielded;rw[eY];have:a.tmps[d]?=some (.bool b):=by
       rw[gm]at hv;cases hx:a.tmps[d]? with
       |none=>rw[hx]at hv;simp[Go.undef]at hv
       |some y=>rw[hx]at hv;simp at hv;rw[hv]
      simp[this]
     by_cases iv:b=want
     ·have hw:Region.wanted o (yielded ops a.tmps)=true:=by simp[Region.wanted,hg,hy,iv]
      rw[if_pos hw];left;exact yN (h.1 iv) ⟨iU,bx,γ,rfl,ha,hs,hf⟩ (hd o bO) (λσ' a' w' hK ed=>DY hd hQ r (i+1) σ' a' w' hr hK ed)
     ·have hw:Region.wanted o (yielded ops a.tmps)=false:=by simp[Region.wanted,hg,hy,iv]
      rw[if_neg (by rw[hw];simp)];refine DY hd hQ r (i+1) _ _ _ hr (h.2 iv) ⟨by rw[put_defers];exact iU,by rw[uI];exact bx,{ γ with tmps:=(a.put o.dst Go.undef).tmps },rfl,rfl,sH hs ha (λd h=>by rw[bx];exact hd o bO d h) (.lit _),?_⟩;rw[rF];exact hf.put _
    ·rename_i vs he;obtain⟨iU,bx,γ,rfl,ha,hs,hf⟩:=ax;have kP:=hs.aw d;rw[he,ha]at kP;have hv:=kP.dz;have hy:yielded ops a.tmps j=none:=by
      unfold yielded;rw[eY];rw[gm]at hv;cases hx:a.tmps[d]? with
      |none=>simp[hx]
      |some y=>rw[hx]at hv;simp at hv;subst hv;simp[hx]
     have hw:Region.wanted o (yielded ops a.tmps)=false:=by simp[Region.wanted,hg,hy]
     rw[if_neg (by rw[hw];simp)];refine DY hd hQ r (i+1) _ _ _ hr h.2 ⟨by rw[put_defers];exact iU,by rw[uI];exact bx,{ γ with tmps:=(a.put o.dst Go.undef).tmps },rfl,rfl,sH hs ha (λd h=>by rw[bx];exact hd o bO d h) (.lit _),?_⟩;rw[rF];exact hf.put _
    ·exact h.elim
end Go.Am
namespace Go.Am
variable {P:Program} {N n0:Nat} {Q:Exit->St->Prop} {σ:St}
def RH{c:Code}{Q':Exit->St->Prop}(h:W P N n0 c Q σ)(hq:∀ e s,Q e s->Q' e s):W P N n0 c Q' σ :=
 λos γ0 a w hn ax=>wp_mono (h os γ0 a w hn ax) (λ_ _ _ ⟨σ',h1,h2⟩=>⟨σ',hq _ _ h1,h2⟩)
def DZ(h:Q .normal σ):W P N n0 .skip Q σ:=λ_ _ _ _ _ ax=>wp_skip ⟨σ,h,ax⟩
def aei{l:Nat}(h:Q .normal σ):W P N n0 (.label l) Q σ:=λ_ _ _ _ _ ax=>wp_label ⟨σ,h,ax⟩
def aej{id:Nat}(h:Q (.exit id) σ):W P N n0 (.exit id) Q σ:=λ_ _ _ _ _ ax=>wp_exit ⟨σ,h,ax⟩
def aek(h:Q .ret σ):W P N n0 .ret Q σ:=λ_ _ _ _ _ ax=>wp_ret ⟨σ,h,ax⟩
def ael(P:Program)(N n0:Nat)(y:Code)(Q:Exit->St->Prop):Exit->St->Prop
 |.normal,s=>W P N n0 y Q s
 |e,s=>Q e s
def Kx{x y:Code}(h:W P N n0 x (ael P N n0 y Q) σ):W P N n0 (.seq x y) Q σ:=by
 intro os γ0 a w hn ax;refine wp_seq (wp_mono (h os γ0 a w hn ax) ?_);rintro e a' w'⟨σ',h1,h2⟩;cases e with
 |normal=>exact h1 os γ0 a' w' hn h2
 |exit id=>exact⟨σ',h1,h2⟩
 |goto l=>exact⟨σ',h1,h2⟩
 |ret=>exact⟨σ',h1,h2⟩
 |panic c=>exact⟨σ',h1,h2⟩
 |outgrown=>exact⟨σ',h1,h2⟩
def D0{c:Operand}{x y:Code}{t:Bool}(hc:ev σ c=.lit (.bool t))(ht:t=true->W P N n0 x Q σ)(hf:t=false->W P N n0 y Q σ):W P N n0 (.cond c x y) Q σ:=by
 intro os γ0 a w hn ax;have bD:a.eval c=.bool t:=by
  obtain⟨_,_,γ,rfl,ha,hs,_⟩:=ax;have:=uS hs ha c;rw[hc]at this;exact this.dz
 exact wp_cond_split bD (λh=>ht h os γ0 a w hn ax) (λh=>hf h os γ0 a w hn ax)
def G4(id:Nat)(Q:Exit->St->Prop):Exit->St->Prop
 |.exit yP,s=>if yP=id then Q .normal s else Q (.exit yP) s
 |e,s=>Q e s
def adW{id:Nat}{c:Code}(h:W P N n0 c (G4 id Q) σ):W P N n0 (.block id c) Q σ:=by
 intro os γ0 a w hn ax;refine wp_block (wp_mono (h os γ0 a w hn ax) ?_);rintro e a' w'⟨σ',h1,h2⟩;cases e with
 |exit yP =>
  simp only[G4]at h1;simp only[Exit.inBlock];split
  ·rename_i he;rw[if_pos he]at h1;exact⟨σ',h1,h2⟩
  ·rename_i he;rw[if_neg he]at h1;exact⟨σ',h1,h2⟩
 |normal=>exact⟨σ',h1,h2⟩
 |goto l=>exact⟨σ',h1,h2⟩
 |ret=>exact⟨σ',h1,h2⟩
 |panic c=>exact⟨σ',h1,h2⟩
 |outgrown=>exact⟨σ',h1,h2⟩
def gU(N:Nat)(ops:Array Oper):Bool:=ops.toList.all λo=>match o.dst with|some d=>decide (d<N)|none=>true
def sI{ops:Array Oper}(h:gU N ops=true):∀ o∈ops.toList,∀ d,o.dst=some d->d<N:=by
 intro o ho d hd;unfold gU at h;rw[fT]at h;have:=h o ho;simp[hd]at this;exact this
def Qi{id:Nat}{ops:Array Oper}(hd:gU N ops=true)(h:opsL P ops ops.toList (Q .normal) σ):W P N n0 (.region id ops false) Q σ:=by
 intro os γ0 a w _ ax;refine wp_region ?_;have:=DY (P:=P) (N:=N) (os:=os) (γ0:=γ0) (ops:=ops) (sI hd) (K:=Q .normal) (Q:=λe a' w'=>∃ σ',Q e σ'/\iH N os γ0 σ' a' w') (λσ' a' w' hK ed=>⟨σ',hK,ed⟩)
  ops.toList 0 σ a w rfl h ax
 rw[List.range_eq_range'];simpa using this
def iH.drawn{os:List Ob}{γ0:Cx}{a:Act}{w:World}(h:iH N os γ0 σ a w):iH N os γ0 σ a { w with drawn:=w.drawn+1 }:=by
 obtain⟨h1,h2,γ,rfl,h3,h4,h5⟩:=h;exact⟨h1,h2,{ γ with w:={ γ.w with drawn:=γ.w.drawn+1 } },rfl,h3,h4.KY rfl,h5.KY rfl rfl rfl rfl⟩
def aF(n0:Nat)(σ σ':St):Prop:=∀ (os:List Ob) (γ0 γ:Cx),os.length=n0->bS σ γ->Fr os γ0 σ.aa γ->∃ aO,aO.w=γ.w/\aO.tmps=γ.tmps/\bS σ' aO/\Fr os γ0 σ'.aa aO
def bY{c:Code}{σ':St}(h:aF n0 σ σ')(hw:W P N n0 c Q σ'):W P N n0 c Q σ:=by
 intro os γ0 a w hn ax;obtain⟨h1,h2,γ,rfl,h3,h4,h5⟩:=ax;obtain⟨aO,e1,e2,e3,e4⟩:=h os γ0 γ hn h4 h5;exact hw os γ0 a γ.w hn ⟨h1,h2,aO,e1,e2.trans h3,e3,e4⟩
def aF.forget{e:Nat->AV}(h:∀ k,e k=.undef\/e k=σ.env k):aF n0 σ ⟨e,σ.aa⟩:=by
 intro os γ0 γ _ hs hf;refine⟨γ,rfl,rfl,⟨λk=>?_,hs.fL,hs.inj,hs.nz,hs.jh⟩,hf⟩;rcases h k with h|h
 ·show aC _ _ _ _ (e k) _;rw[h];exact .undef _
 ·show aC _ _ _ _ (e k) _;rw[h];exact hs.aw k
def aF.select(au:List Nat)(snap:Bool)(cp:List Ob)(e:Nat->AV)(bX:au.Nodup)(cm:cp.length=au.length)(kR:∀ (j:Nat) o,cp[j]?=some o->o=.gone\/σ.aa[au.getD j 0]?=some (cg (bL σ.aa.length au) o))(fM:∀ i∈au,i<σ.aa.length)(hn:n0<=au.length)(dt:∀ i,i<n0->au.getD i 0=i)(he:∀ k,e k=.undef\/aJ σ (λid=>∃ j,j<au.length/\au.getD j 0=id/\cp[j]?≠some .gone) (bL σ.aa.length au) snap (e k) (σ.env k)):aF n0 σ ⟨e,cp⟩:=by
 intro os γ0 γ xF hs hf;obtain⟨aO,h1,h2,h3,h4⟩:=hs.select au snap cp bX cm kR fM e γ.tmps (λk=>(he k).imp id λh=>⟨_,h,hs.aw k⟩);exact⟨aO,h1,h2,h3,hf.select GC cm (λi hi=>dt i GC) h1 h4⟩
def aF.trans{σ1 σ2:St}(h:aF n0 σ σ1)(k:aF n0 σ1 σ2):aF n0 σ σ2:=by
 intro os γ0 γ xF hs hf;obtain⟨γ1,a1,a2,a3,a4⟩:=h os γ0 γ xF hs hf;obtain⟨DC,b1,b2,b3,b4⟩:=k os γ0 γ1 xF a3 a4;exact⟨DC,b1.trans a1,b2.trans a2,b3,b4⟩
def aF.nil(d sz:Nat)(h:σ.env d=.lit (.slice none 0 0))(h0:0<sz):aF n0 σ ⟨j8 σ.env d (.ref σ.aa.length sz 0 0),σ.aa++[.arr sz []]⟩:=by
 intro os γ0 γ _ hs hf;have hp:=hs.Au h0;refine⟨{ γ with blk:=dL γ.blk σ.aa.length none },rfl,rfl,⟨λk=>?_,hp.fL,hp.inj,hp.nz,hp.jh⟩,hf.trans (Fr.Au _ _ _)⟩;simp only[j8];by_cases hk:k=d
 ·subst hk;rw[if_pos rfl];have:=hs.aw k;rw[h]at this;rw[this.dz];exact .nN _ _ (List.getElem?_concat_length ..) (by simp[dL])
 ·rw[if_neg hk];exact hp.aw k
def eF(σ:St)(P:Program):List ResultVar->(List AV->Prop)->Prop
 |[],K=>K []
 |.tmp t::r,K=>eF σ P r λvs=>K (σ.env t::vs)
 |.cell a t::r,K =>
  (ty P t).kind≠99 /\
  match σ.env a with
  |.ptr id rr c =>
   match rowOf σ id rr with
   |some row=>nJ (ty P t) row c λv=>eF σ P r λvs=>K (v::vs)
   |none=>False
  |_=>False
def ew:List AV->AV
 |[v]=>v
 |vs=>.bJ vs
def Hk{γ:Cx}(hs:bS σ γ):∀ (rs:List ResultVar) (K:List AV->Prop),eF σ P rs K ->
  ∃ vs bG,K vs/\(rs.mapM λ(r:ResultVar)=>match r with|.tmp t=>(pure (γ.tmps.getD t Go.undef):Sem Value)|.cell a t=>do loadVar t (← asAddr (γ.tmps.getD a Go.undef))).run P γ.w=.ok bG γ.w /\
   bG.length=vs.length/\vs.length=rs.length/\∀ (j:Nat) v,vs[j]?=some v->aC σ.aa γ.w γ.Z γ.blk v (bG.getD j Go.undef)
 |[],K,h=>⟨[],[],h,GF,rfl,rfl,GF⟩
 |.tmp t::r,K,h=>by
  obtain⟨vs,bG,h1,h2,h3,h4,h5⟩:=Hk hs r _ h;refine⟨_,γ.tmps.getD t Go.undef::bG,h1,?_,by simp[h3],by simp[h4],?_⟩
  ·simp only[List.mapM_cons,Sem.run_bind,Sem.run_pure,Result.andThen_ok,h2]
  ·intro j v hj;cases j with
   |zero=>simp at hj;subst hj;simpa using hs.aw t
   |succ j=>simpa using h5 j v (by simpa using hj)
 |.cell a t::r,K,h=>by
  obtain⟨hk,h⟩:=h;split at h
  ·rename_i id rr c he;have hv:=hs.aw a;rw[he]at hv;split at h
   ·rename_i row bq;obtain⟨v,cv,l1,l2,l3⟩:=KW hs hk hv bq h;obtain⟨vs,bG,h1,h2,h3,h4,h5⟩:=Hk hs r _ l3;obtain⟨b,base,cap,cur,tt,o,hp,_⟩:=Hi hs hv bq;have fN:(do loadVar t (← asAddr (γ.tmps.getD a Go.undef)):Sem Value).run P γ.w=.ok cv γ.w:=by
     rw[hp]at l1 ⊢;simp only[Instr.loadAt,Instr.sureAddr,Sem.run_bind,Sem.run_pure,Result.andThen_ok]at l1;simp only[asAddr,Sem.run_bind,Sem.run_pure,Result.andThen_ok];exact l1
    refine⟨_,cv::bG,h1,?_,by simp[h3],by simp[h4],?_⟩
    ·simp only[List.mapM_cons];rw[Sem.run_bind,fN];simp only[Result.andThen_ok,Sem.run_bind,h2,Sem.run_pure]
    ·intro j x hj;cases j with
     |zero=>simp at hj;subst hj;simpa using l2
     |succ j=>simpa using h5 j x (by simpa using hj)
   ·exact h.elim
  ·exact h.elim
def pF(n0:Nat)(σ:St)(v res:AV)(bI:List Ob):Prop :=
 ∃ (au:List Nat) (snap:Bool),au.Nodup/\bI.length=au.length/\(∀ (j:Nat) o,bI[j]?=some o->o=.gone\/σ.aa[au.getD j 0]?=some (cg (bL σ.aa.length au) o))/\(∀ i∈au,i<σ.aa.length) /\
  n0<=au.length/\(∀ i,i<n0->au.getD i 0=i)/\aJ σ (λid=>∃ j,j<au.length/\au.getD j 0=id/\bI[j]?≠some .gone) (bL σ.aa.length au) snap res v
def B2(P:Program)(n0:Nat)(rs:List ResultVar)(res:AV)(bI:List Ob):Exit->St->Prop
 |.normal,s=>eF s P rs λvs=>pF n0 s (ew vs) res bI
 |.ret,s=>eF s P rs λvs=>pF n0 s (ew vs) res bI
 |_,_=>False
def ao.KZ {f : FuncId} {fn : Func} {c : Code} {args : List AV} {aa : List Ob} {res : AV} {bI : List Ob} (hf : P.funcs[f]? = some fn) (hb : fn.body = some c) (sQ : (fn.name == "runtime.NumGoroutine") = false)
  (hN:args.length<=fn.ntmps) (h:W P fn.ntmps aa.length c (B2 P aa.length fn.results.toList res bI) ⟨λk=>args.getD k .undef,aa⟩):ao P f args aa res bI:=by
 refine⟨⟨fn,hf,sQ,by rw[hb];rfl⟩,?_⟩;intro γ bx hs;refine calls_of_wp hf hb ?_
 let tm:=γ.tmps++Array.replicate (fn.ntmps-γ.tmps.size) Go.undef
 have ax:iH fn.ntmps aa γ ⟨λk=>args.getD k .undef,aa⟩ { tmps:=tm,defers:=[] } γ.w:=by
  refine⟨rfl,by simp[tm];omega,{ γ with tmps:=tm },rfl,rfl,⟨λk=>?_,hs.fL,hs.inj,hs.nz,hs.jh⟩,(Fr.refl _ _).put _⟩;rcases fK k args.length with hk|hk
  ·have:=hs.aw k;have e:tm.getD k Go.undef=γ.tmps.getD k Go.undef:=by
    simp only[tm,gm];rw[Gx GC]
   show aC _ _ _ _ _ (tm.getD k Go.undef);rw[e];exact this
  ·have e:args.getD k AV.undef=.undef:=by simp[hk]
   show aC _ _ _ _ (args.getD k .undef) _;rw[e];exact .undef _
 refine wp_mono (h aa γ _ γ.w rfl ax) ?_;rintro e a' w'⟨σ',h1,iU,_,aO,rfl,ha,jg,gX⟩;have fin:∀ (K:List AV->Prop),eF σ' P fn.results.toList K->(∀ vs,K vs->pF aa.length σ' (ew vs) res bI) ->
   a'.defers=[]/\∃ v,(results fn a'.tmps).run P aO.w=.ok v aO.w/\∃ cv j9,Ending.returned v=.returned cv/\j9.w=aO.w/\j9.tmps = #[cv]/\bS ⟨λk=>[res].getD k .undef,bI⟩ j9/\Fr aa γ bI j9:=by
  intro K hK K3;obtain⟨vs,bG,k1,k2,k3,k4,k5⟩:=Hk jg _ _ hK;obtain⟨au,snap,r1,r2,r3,r4,r5,r6,r7⟩:=K3 vs k1;refine⟨iU,?_⟩;have fN :∃v,(results fn a'.tmps).run P aO.w=.ok v aO.w/\aC σ'.aa aO.w aO.Z aO.blk (ew vs) v:=by
   have hm:(fn.results.mapM λ(r:ResultVar)=>match r with|.tmp t=>(pure (a'.tmps.getD t Go.undef):Sem Value)|.cell a t=>do loadVar t (← asAddr (a'.tmps.getD a Go.undef))).run P aO.w=.ok bG.toArray aO.w:=by
    rw[Array.mapM_eq_mapM_toList,Sem.run_map,<- ha,k2];rfl
   have hr:(results fn a'.tmps).run P aO.w=.ok (if h:bG.toArray.size=1 then bG.toArray[0] else .tuple bG.toArray) aO.w:=by
    unfold results;rw[Sem.run_bind];exact congrArg (λr=>Result.andThen r λ(a:Array Value) w'=>(pure (if h:a.size=1 then a[0] else Value.tuple a):Sem Value).run P w') hm
   rw[hr]
   match vs,bG,k3,k5 with
   |[],[],_,k5=>exact⟨_,rfl,.bJ _ _ rfl (λj x hj=>by simp at hj)⟩
   |[v],[cv],_,k5=>exact⟨cv,GF,by simpa [ew] using k5 0 v rfl⟩
   |v::v'::vs,cv::qC::bG,k3,k5 =>
    refine⟨.tuple (cv::qC::bG).toArray,GF,.bJ _ _ (by simpa using k3) (λj x hj=>?_)⟩;have:=k5 j x hj;simpa [aA,gm] using this
  obtain⟨v,rK,oz⟩:=fN;obtain⟨j9,e1,e2,e3,e4⟩:=jg.select au snap bI r1 r2 r3 r4 (λk=>[res].getD k .undef) #[v] (λk=>by
   cases k with
   |zero=>exact .inr ⟨_,r7,by simpa using oz⟩
   |succ k=>left;simp)
  exact⟨v,rK,v,j9,rfl,e1,e2,e3,gX.select r5 r2 r6 e1 e4⟩
 cases e with
 |normal=>exact fin _ h1 (λ_ h=>h)
 |ret=>exact fin _ h1 (λ_ h=>h)
 |exit id=>exact h1.elim
 |goto l=>exact h1.elim
 |panic c=>exact h1.elim
 |outgrown=>exact h1.elim
theorem ao.aD {f:FuncId} {fn:Func} {c:Code} {args:List AV} {aa:List Ob} {res:AV} {bI:List Ob} (N k:Nat) (rs:List ResultVar) (hf:P.funcs[f]?=some fn) (h:W P N k c (B2 P k rs res bI) ⟨fun k=>args.getD k .undef,aa⟩) (hb:fn.body=some c:=by rfl) (sQ:(fn.name=="runtime.NumGoroutine")=false:=by rfl) (hN:fn.ntmps=N:=by rfl) (rL:fn.results.toList=rs:=by rfl) (hk:aa.length=k:=by rfl) (hl:args.length<=N:=by simp):ao P f args aa res bI:=by
 subst hN;subst rL;subst hk;exact ao.KZ hf hb sQ hl h
def W_k{x y:Code}(h:∀ Q':Exit->St->Prop,(∀ s,W P N n0 y Q s->Q' .normal s)->(∀ e s,e≠.normal->Q e s->Q' e s)->W P N n0 x Q' σ):W P N n0 (.seq x y) Q σ :=
 Kx (h _ (λ_ h=>h) (λe s he hq=>by cases e<;>first|exact absurd rfl he|exact hq))
def xG{id:Nat}{ops:Array Oper}{y:Code}(hd:gU N ops=true)(h:∀ K:St->Prop,(∀ s,W P N n0 y Q s->K s)->opsL P ops ops.toList K σ):W P N n0 (.seq (.region id ops false) y) Q σ :=
 Kx (Qi hd (h _ (λ_ h=>h)))
def RJ{ops:Array Oper}{K:St->Prop}:opsL P ops [] K σ=K σ:=rfl
def RK{ops:Array Oper}{o:Oper}{r:List Oper}{K:St->Prop}:opsL P ops (o::r) K σ =
  match o.guard with
  |none=>aZ P o σ (opsL P ops r K)
  |some (j,want) =>
   match (ops[j]?).bind (·.dst) with
   |none=>False
   |some d =>
    match σ.env d with
    |.lit (.bool b)=>pK P o (opsL P ops r K) b want σ
    |.lit (.tuple vs)=>vs = #[]/\opsL P ops r K (σ.put o.dst (.lit (.tuple #[])))
    |_=>False:=rfl
def RL{o:Oper}{K:St->Prop}:pK P o K true true σ=aZ P o σ K:=by simp[pK]
def RM{o:Oper}{K:St->Prop}:pK P o K false false σ=aZ P o σ K:=by simp[pK]
def RN{o:Oper}{K:St->Prop}:pK P o K true false σ=K (σ.put o.dst (.lit (.tuple #[]))):=by simp[pK]
def RO{o:Oper}{K:St->Prop}:pK P o K false true σ=K (σ.put o.dst (.lit (.tuple #[]))):=by simp[pK]
def aen{o:Oper}{K:St->Prop}{b want:Bool}(h1:b=true->pK P o K true want σ)(h2:b=false->pK P o K false want σ):pK P o K b want σ:=by
 cases b
 ·exact h2 rfl
 ·exact h1 rfl
def clr(ds:List Nat)(e:Nat->AV):Nat->AV:=λk=>if ds.contains k then .undef else e k
def Hl{ds:List Nat}{e:Nat->AV}{k:Nat}:clr ds e k=if ds.contains k then .undef else e k:=rfl
def aep(e:Nat->AV)(d:Nat)(v:AV):j8 e d v d=v:=by simp[j8]
mutual
def gL:AV->Bool
 |.ref ..=>false
 |.ptr ..=>false
 |.agg cs=>ju cs
 |.bJ cs=>ju cs
 |.fn _ cs=>ju cs
 |.jl _ v=>gL v
 |.iV _=>false
 |_=>true
def ju:List AV->Bool
 |[]=>true
 |v::vs=>gL v&&ju vs
end
mutual
def Ah(ρ:Nat->Nat):∀ (v:AV),gL v=true->bC ρ v=v
 |.undef,_=>rfl
 |.lit _,_=>rfl
 |.tree ..,_=>rfl
 |.cq _,_=>rfl
 |.ref ..,h=>by simp[gL]at h
 |.ptr ..,h=>by simp[gL]at h
 |.agg cs,h=>by simp only[gL]at h;simp only[bC];rw[BR ρ cs h]
 |.bJ cs,h=>by simp only[gL]at h;simp only[bC];rw[BR ρ cs h]
 |.fn f cs,h=>by simp only[gL]at h;simp only[bC];rw[BR ρ cs h]
 |.jl t v,h=>by simp only[gL]at h;simp only[bC];rw[Ah ρ v h]
 |.iV _,h=>by simp[gL]at h
def BR(ρ:Nat->Nat):∀ (l:List AV),ju l=true->qu ρ l=l
 |[],_=>rfl
 |v::vs,h=>by
  simp only[ju,bw]at h;simp only[qu];rw[Ah ρ v h.1,BR ρ vs h.2]
end
def aeq{l:List AV}(h:ju l=true){j:Nat}{x:AV}(hx:l[j]?=some x):gL x=true:=by
 induction l generalizing j with
 |nil=>simp at hx
 |cons v l ih =>
  simp only[ju,bw]at h;cases j with
  |zero=>simp at hx;subst hx;exact h.1
  |succ j=>exact ih h.2 (by simpa using hx)
def cF{f:FuncId}{args:List AV}{dst:Option Tmp}{K:St->Prop}{res:AV}(h:ao P f args [] res [])(ha:ju args=true)(hr:gL res=true)(hK:K (σ.put dst res)):sK P f args dst K σ:=by
 refine⟨[],false,args,[],res,[],h,⟨List.nodup_nil,rfl,GF,rfl,?_,GF⟩,?_⟩
 ·intro j c d hc hd;rw[hc]at hd;simp at hd;subst hd;have:=aJ.same (σ:=σ) (kp:=(·∈([]:List Nat))) (ρ:=bL σ.aa.length []) (snap:=false) c;rw[Ah _ c (aeq ha hc)]at this;exact this
 ·rw[Ah _ _ hr];simpa [eS] using hK
def G8{v:AV}(hr:gL v=true):pF 0 σ v v []:=by
 refine⟨[],false,List.nodup_nil,rfl,GF,GF,aN _,GF,?_⟩;have:=aJ.same (σ:=σ) (kp:=λid=>∃ j,j<([]:List Nat).length/\([]:List Nat).getD j 0=id/\([]:List Ob)[j]?≠some .gone) (ρ:=bL σ.aa.length []) (snap:=false) v;rw[Ah _ _ hr]at this;exact this
end Go.Am
namespace Go.Am
variable {P:Program}
def cls:Op->Nat
 |.move _|.assign _|.pick ..|.convert ..|.binOp ..|.unOp ..|.makeFunc ..|.makeInterface ..|.typeAssert ..|.field ..|.extract ..|.build ..|.index ..=>0
 |.call { callee:=.builtin .min,.. }|.call { callee:=.builtin .max,.. }=>0
 |.nilCheck _|.fieldAddr ..|.indexAddr ..|.slice ..=>1
 |.call { callee:=.builtin .len,.. }=>1
 |.load ..|.lookup ..=>2
 |.alloc _|.box ..|.makeSlice ..|.buildSlice ..|.makeMap ..=>3
 |.store ..=>4
 |_=>5
def uJ:Ob->Ob->Prop
 |.var _,.var _=>True
 |.arr s _,.arr s' _=>s=s'
 |.mp a L,.mp b M=>a=b/\L=M
 |.gone,.gone=>True
 |_,_=>False
def Ad(o:Ob):uJ o o:=by cases o<;>simp[uJ]
def mf(c:Nat)(a b:List Ob):Prop :=
 if c<=2 then b=a
 else if c=3 then ∀ (id:Nat),id<a.length->b[id]?=a[id]?
 else if c=4 then b.length=a.length/\∀ (id:Nat) o o',a[id]?=some o->b[id]?=some o'->uJ o o'
 else True
def aer(c:Nat)(h:c<=2)(a:List Ob):mf c a a:=by simp[mf,h]
def Hm(a:List Ob)(o:Ob):mf 3 a (a++[o]):=by
 simp only[mf];intro id h;exact cT h
def aes(σ:St)(id r:Nat)(row:List AV):mf 4 σ.aa (pG σ id r row).aa:=by
 simp only[mf];rw[if_neg Px,if_neg Px,if_pos trivial];have key:∀ (x y:Ob),σ.aa[id]?=some x->uJ x y->(σ.aa.set id y).length=σ.aa.length/\∀ (i:Nat) o o',σ.aa[i]?=some o->(σ.aa.set id y)[i]?=some o'->uJ o o':=by
  intro x y hx oY;refine⟨GF,λi o o' ho cG=>?_⟩;rw[List.getElem?_set]at cG;split at cG
  ·rename_i e;subst e;split at cG
   ·simp at cG;subst cG;rw[hx]at ho;simp at ho;subst ho;exact oY
   ·simp at cG
  ·rw[ho]at cG;simp at cG;subst cG;exact Ad o
 unfold pG;split
 ·rename_i cells h;exact key _ _ h trivial
 ·rename_i sz rows h;exact key _ _ h rfl
 ·exact⟨rfl,λi o o' ho cG=>by rw[ho]at cG;simp at cG;subst cG;exact Ad o⟩
def uT:AV->Option Nat
 |.ref id _ _ _=>some id
 |.ptr id _ _=>some id
 |.iV id=>some id
 |_=>none
def kr(c:Nat)(a b:Option Ob):Prop :=
 if c=0 then True else if c=1 then ∀ o,a=some o->∃ o',b=some o'/\uJ o o' else ∀ o,a=some o->b=some o
def tL(c:Nat)(l:List Operand)(σ:St)(e2:Nat->AV)(ob:List Ob):Prop :=
 (∀ x∈l,ev ⟨e2,ob⟩ x=ev σ x)/\(∀ x∈l,∀ id,uT (ev σ x)=some id->kr c σ.aa[id]? ob[id]?)
def K4(P:Program)(o:Oper)(σ:St)(K:St->Prop)(c:Nat)(l:List Operand):Prop :=
 ∃ v os,mf c σ.aa os/\K ((⟨σ.env,os⟩:St).put o.dst v)/\∀ e2 ob eE (K2:St->Prop),tL c l σ e2 ob->(if c<=2 then eE=ob else ob=σ.aa/\eE=os)->K2 ((⟨e2,eE⟩:St).put o.dst v)->cU P o ⟨e2,ob⟩ K2
theorem dA{o:Oper}{σ:St}{K:St->Prop}{c:Nat}{l:List Operand}{v:AV}(hW:K (σ.put o.dst v))(h:∀ e2 ob (K2:St->Prop),tL c l σ e2 ob->K2 ((⟨e2,ob⟩:St).put o.dst v)->cU P o ⟨e2,ob⟩ K2)(hc:c<=2:=by simp[cls]):K4 P o σ K c l :=
 ⟨v,σ.aa,aer _ hc _,hW,fun e2 ob eE K2 hx ho iL=>h e2 ob K2 hx (by rw[if_pos hc]at ho;subst ho;exact iL)⟩
def dB{o:Oper}{σ:St}{K:St->Prop}{c:Nat}{l:List Operand}{v:AV}{os:List Ob}(hc:3<=c)(he:mf c σ.aa os)(hW:K ((⟨σ.env,os⟩:St).put o.dst v))(h:∀ e2 (_:List Ob) (K2:St->Prop),tL 0 l σ e2 σ.aa->K2 ((⟨e2,os⟩:St).put o.dst v)->cU P o ⟨e2,σ.aa⟩ K2):K4 P o σ K c l :=
 ⟨v,os,he,hW,λe2 ob eE K2 hx ho iL=>by rw[if_neg GC]at ho;obtain⟨rfl,rfl⟩:=ho;exact h e2 σ.aa K2 ⟨hx.1,λ_ _ _ _=>by simp[kr]⟩ iL⟩
def parts_eq{parts:Array (Nat×Operand)}{σ τ:St}(h:∀ x∈parts.toList.map (·.2),ev τ x=ev σ x):
  (parts.toList.map λp=>(p.1,ev τ p.2))=(parts.toList.map λp=>(p.1,ev σ p.2))/\(parts.toList.all λp=>(cellsOf (ev τ p.2)).all cO)=(parts.toList.all λp=>(cellsOf (ev σ p.2)).all cO):=by
 have hp:(parts.toList.map λp=>(p.1,ev τ p.2))=(parts.toList.map λp=>(p.1,ev σ p.2)):=l8 λp hp=>by rw[h _ (Gw hp)]
 exact⟨hp,by simpa [List.all_map,Function.comp_def] using congrArg (·.all λq=>(cellsOf q.2).all cO) hp⟩
def PZ{t:Ty}{cells:List AV}{c:Nat}{K:AV->Prop}(h:nJ t cells c K):∃v,K v/\∀ K2:AV->Prop,K2 v->nJ t cells c K2:=by
 unfold nJ at h ⊢;split at h
 ·exact⟨_,h.2,λK2 hK=>by simp_all⟩
 ·split at h<;>first|exact h.elim|exact⟨_,h,λK2 hK=>by simp_all⟩
def aet{op:BinOp}{k:IntKind}{p q:Int}{K:Value->Prop}(h:iJ op k p q K):∃v,K v/\∀ K2:Value->Prop,K2 v->iJ op k p q K2:=by
 unfold iJ at h ⊢;split at h<;>first|exact⟨_,h.2,λK2 h'=>⟨h.1,h'⟩⟩|exact⟨_,h,λK2 h=>h⟩|exact h.elim
def aeu{σ:St}{e:Nat->AV}{ob:List Ob}{id r:Nat}{row:List AV}(h:∀ o,σ.aa[id]?=some o->ob[id]?=some o)(hr:rowOf σ id r=some row):rowOf ⟨e,ob⟩ id r=some row:=by
 unfold rowOf at hr ⊢;cases ho:σ.aa[id]?<;>simp_all
def aev{σ:St}{e:Nat->AV}{ob:List Ob}{v:AV}{q:Nat×Nat×List (List Int×AV)}(h:∀ id,v=.iV id->∀ o,σ.aa[id]?=some o->ob[id]?=some o)(hm:ng σ v=some q):ng ⟨e,ob⟩ v=some q:=by
 unfold ng at hm ⊢;split at hm
 ·rename_i id;split at hm
  ·rename_i ag L ho;have:=h id rfl _ ho;simp only[this];exact hm
  ·cases hm
 ·cases hm
def RQ{o:Oper}{σ:St}{K:St->Prop}(hW:cU P o σ K):K4 P o σ K (cls o.op) o.op.operands.toList:=by
 obtain⟨dst,op,type,pos,after,guard⟩:=o;unfold cU at hW;cases op
 case call c =>
  obtain⟨callee,args,argTypes⟩:=c;cases callee<;>try exact hW.elim
  rename_i b;cases b<;>try exact hW.elim
  all_goals simp only at hW
  case append =>
   (repeat' split at hW)<;>try exact hW.elim
   rename_i s x t t' dw lH _ _ _ _ z pre σ1 sz src hk hz D1 uU;have yY:σ1=⟨σ.env,σ1.aa⟩/\∀ e,sM ⟨e,σ.aa⟩ (ty P (ty P t).elem).size (ev σ s)=some (pre,⟨e,σ1.aa⟩):=by
    unfold sM at D1 ⊢;(repeat' split at D1)<;>simp_all
    all_goals obtain⟨rfl,rfl⟩:=D1;simp
   refine dB (os:=σ1.aa++[.arr sz (pre++src)]) (by simp[cls]) trivial (by have:=hW.2;rw[yY.1]at this;exact this) λe2 ob K2 hx iL=>?_;have jC:pI ⟨e2,σ.aa⟩ (ev σ x)=some (sz,src):=uU;unfold cU;simp[tL,Op.operands,Call.operands,dw]at hx;simp only[dw,lH,hx.1.1,hx.1.2,hk,hz,yY.2,jC];exact⟨hW.1,iL⟩
  case copy =>
   (repeat' split at hW)<;>try exact hW.elim
   rename_i dw lH _ _ id _ _ _ _ src he uU _ _ _ ho;refine dB (by simp[cls]) trivial hW.2 λe2 ob K2 hx iL=>?_;have jC:pI ⟨e2,σ.aa⟩ _=_:=uU;unfold cU;simp[tL,Op.operands,Call.operands,dw]at hx;simp only[dw,lH,hx.1.1,hx.1.2,he,jC,ho];exact⟨hW.1,iL⟩
  case clear =>
   (repeat' split at hW)<;>try exact hW.elim
   rename_i dw lH _ _ id _ _ _ _ he hz _ _ _ ho;refine dB (by simp[cls]) trivial hW.2 λe2 ob K2 hx iL=>?_;unfold cU;simp[tL,Op.operands,Call.operands,dw]at hx;simp only[dw,lH,hx,he,hz,ho];exact⟨hW.1,iL⟩
  all_goals(repeat' split at hW)<;>first|exact hW.elim|exact hW.2.elim|refine dA hW ?_|refine dA hW.2 ?_|refine dA hW.2.2 ?_
  all_goals
   intro e2 ob K2 hx iL;unfold cU;simp[tL,Op.operands,Call.operands,uT,kr,cls, *]at hx ⊢;first|done|(simp_all;done)|(obtain⟨_,o',_,hk⟩:=hx;cases o'<;>simp_all [uJ];done)
 case load t x =>
  simp only at hW;obtain⟨hk,hW⟩:=hW;(repeat' split at hW)<;>try exact hW.elim
  all_goals
   obtain⟨v,hK,hl⟩:=PZ hW;refine dA hK λe2 ob K2 hx iL=>?_;unfold cU;simp[tL,Op.operands,uT,kr,cls, *]at hx;first|simp only[hx.1,aeu hx.2 ‹rowOf _ _ _=_›]|simp only[hx]
   exact⟨hk,hl _ iL⟩
 case store t x y =>
  simp only at hW;obtain⟨hk,hW⟩:=hW;(repeat' split at hW)<;>try exact hW.elim
  rename_i id r c he _ row bq;have yY:∀ row,pG σ id r row=⟨σ.env,(pG σ id r row).aa⟩/\∀ e,pG ⟨e,σ.aa⟩ id r row=⟨e,(pG σ id r row).aa⟩:=by
   intro row;unfold pG;simp only;split<;>simp_all
  refine dB (by simp[cls]) (aes _ _ _ _) (by have:=hW.2;rw[(yY _).1]at this;exact this) λe2 ob K2 hx iL=>?_;have gF:rowOf ⟨e2,σ.aa⟩ id r=some row:=bq;unfold cU;simp only[hx.1 x (by simp[Op.operands]),hx.1 y (by simp[Op.operands]),he,gF];rw[(yY _).2];exact⟨hk,hW.1,iL⟩
 case build t parts =>
  simp only at hW;(repeat' split at hW)<;>first|exact hW.elim|refine dA hW.2 ?_
  all_goals
   intro e2 ob K2 hx iL;obtain⟨h1,h2⟩:=parts_eq (parts:=parts) (by simpa [Op.operands] using hx.1);unfold cU;simp only[h1,h2, *];simp[hW.1]
 case buildSlice t _ parts =>
  simp only at hW;(repeat' split at hW)<;>first|exact hW.elim|refine dB (aN 3) (Hm _ _) hW.2 ?_
  intro e2 ob K2 hx iL;obtain⟨h1,h2⟩:=parts_eq (parts:=parts) (by simpa [Op.operands] using hx.1);unfold cU;simp only[h1,h2, *];simp[hW.1]
 case makeFunc fn first captured =>
  simp only at hW;split at hW<;>first|exact hW.elim|refine dA hW.2 λe2 ob K2 hx iL=>?_
  unfold cU;simp only[l8 (l:=captured.toList) (f:=ev ⟨e2,ob⟩) (g:=ev σ) λy hy=>hx.1 y (by simp only[Op.operands,BA,List.mem_append];exact .inr hy)];exact⟨hW.1,iL⟩
 case binOp op t x y yt =>
  simp only at hW;split at hW
  ·rename_i k p k' q he hf;obtain⟨hk,hW⟩:=hW;obtain⟨v,hK,hl⟩:=aet hW;refine dA hK λe2 ob K2 hx iL=>?_;unfold cU;simp[tL,Op.operands,he,hf]at hx;simp only[hx.1.1,hx.1.2];exact⟨hk,hl _ iL⟩
  all_goals(repeat' split at hW)<;>first|exact hW.elim|exact hW.2.elim|refine dA hW.2 ?_
  all_goals
   intro e2 ob K2 hx iL;unfold cU;simp[tL,Op.operands, *]at hx ⊢;first|done|(simp_all;done)
 case slice t x lo hi mx =>
  simp only at hW;obtain⟨hk,fA,rfl,hW⟩:=hW;cases lo<;>cases hi<;>simp only[fl,Option.map_none]at hW;all_goals(repeat' split at hW)<;>first|exact hW.elim|exact hW.2.elim|exact hW.2.2.elim|refine dA hW.2 ?_|refine dA hW.2.2 ?_|refine dA hW.2.2.2 ?_
  all_goals
   intro e2 ob K2 hx iL;unfold cU;simp only[dI.injEq]at *;simp[tL,Op.operands,uT,kr,cls, *]at hx ⊢;first|done|(simp_all;done)|(obtain⟨_,o',_,hk⟩:=hx;cases o'<;>simp_all [uJ];done)|(obtain⟨_,⟨o',_,hk⟩,_⟩:=hx;cases o'<;>simp_all [uJ];done)|trace_state
 case makeMap t r =>
  simp only at hW;obtain⟨⟨rfl,hk⟩,hK⟩:=hW;refine dB (aN 3) (Hm _ _) hK λe2 ob K2 hx iL=>?_;unfold cU;exact⟨⟨rfl,hk⟩,iL⟩
 case lookup t x i ok =>
  simp only at hW;split at hW
  ·rename_i ag l id jU L z jD o8 o9;refine dA hW.2 λe2 ob K2 hx iL=>?_;have h1:=hx.1 x (by simp[Op.operands]);have h2:=hx.1 i (by simp[Op.operands]);have h3:ng ⟨e2,ob⟩ (ev σ x)=some (id,jU,L):=aev (λyP dt o ho=>by
    have:=hx.2 x (by simp[Op.operands]) yP (by rw[dt];rfl);unfold kr at this;simp[cls]at this;exact this o ho) o8
   unfold cU;simp only[h1,h2,jD,h3,o9];exact⟨hW.1,iL⟩
  ·exact hW.elim
 case mapUpdate t m k x =>
  simp only at hW;split at hW
  ·rename_i jD o8;obtain⟨oA,D2⟩:=hW;refine dB (v:=.undef) (os:=_) (by simp[cls]) trivial D2 λe2 ob K2 hx iL=>?_;have h1:=hx.1 m (by simp[Op.operands]);have h2:=hx.1 k (by simp[Op.operands]);have h3:=hx.1 x (by simp[Op.operands]);have h4:ng ⟨e2,σ.aa⟩ (ev σ m)=_:=o8;unfold cU;simp only[h1,h2,h3,jD,h4];exact⟨oA,iL⟩
  ·exact hW.elim
 case mapEntry t m k =>
  simp only at hW;split at hW
  ·rename_i jD o8 o9;obtain⟨oA,D2⟩:=hW;refine dB (v:=_) (os:=_) (by simp[cls]) trivial D2 λe2 ob K2 hx iL=>?_;have h1:=hx.1 m (by simp[Op.operands]);have h2:=hx.1 k (by simp[Op.operands]);have h4:ng ⟨e2,σ.aa⟩ (ev σ m)=_:=o8;unfold cU;simp only[h1,h2,jD,h4,o9];exact⟨oA,iL⟩
  ·exact hW.elim
 case entryStore t m s x =>
  simp only at hW;split at hW
  ·rename_i hs o8;obtain⟨oA,D2⟩:=hW;refine dB (v:=.undef) (os:=_) (by simp[cls]) trivial D2 λe2 ob K2 hx iL=>?_;have h1:=hx.1 m (by simp[Op.operands]);have h2:=hx.1 s (by simp[Op.operands]);have h3:=hx.1 x (by simp[Op.operands]);have h4:ng ⟨e2,σ.aa⟩ (ev σ m)=_:=o8;unfold cU;simp only[h1,h2,h3,hs,h4];exact⟨oA,iL⟩
  ·exact hW.elim
 all_goals(try simp only at hW);(try exact hW.elim)
 all_goals(repeat' split at hW)<;>first|exact hW.elim|exact hW.2.elim|exact hW.2.2.elim|refine dA hW ?_|refine dA hW.2 ?_|refine dA hW.2.2 ?_|refine dA hW.2.2.2 ?_|refine dB (aN 3) (Hm _ _) hW.2 ?_|refine dB (aN 3) (Hm _ _) hW.2.1 ?_
 all_goals
  intro e2 ob K2 hx iL;unfold cU;simp[tL,Op.operands,uT,kr,cls,-fT, *]at hx ⊢;first|done|(simp_all;done)|(obtain⟨_,rfl,_⟩:=hW;simp_all;done)|(obtain⟨_,o',_,hk⟩:=hx;cases o'<;>simp_all [uJ];done)
def adJ{o:Oper}{σ:St}{K:St->Prop}(hW:cU P o σ K):
  ∃ v os,mf (cls o.op) σ.aa os/\K ((⟨σ.env,os⟩:St).put o.dst v)/\∀ (e2:Nat->AV) (K2:St->Prop),(∀ x∈o.op.operands.toList,ev ⟨e2,σ.aa⟩ x=ev σ x)->K2 ((⟨e2,os⟩:St).put o.dst v)->cU P o ⟨e2,σ.aa⟩ K2:=by
 obtain⟨v,os,h1,h2,h3⟩:=RQ hW;refine⟨v,os,h1,h2,λe2 K2 hx hK=>h3 e2 _ os K2 ⟨hx,λ_ _ _ _=>?_⟩ ?_ hK⟩
 ·unfold kr;(repeat' split)<;>first|trivial|exact λo ho=>ho|exact λo ho=>⟨o,ho,Ad o⟩
 ·split
  ·rename_i hc;simpa [mf,hc] using h1
  ·exact⟨rfl,rfl⟩
def P0{o:Oper}{σ:St}{K:St->Prop}(hc:cls o.op<=2)(hW:cU P o σ K):
  ∃ v,K (σ.put o.dst v)/\∀ (σ2:St) (K2:St->Prop),(∀ x∈o.op.operands.toList,ev σ2 x=ev σ x)->(∀ x∈o.op.operands.toList,∀ id,uT (ev σ x)=some id->kr (cls o.op) σ.aa[id]? σ2.aa[id]?) ->
   K2 (σ2.put o.dst v)->cU P o σ2 K2:=by
 obtain⟨v,os,h1,h2,h3⟩:=RQ hW;simp only[mf,hc,if_true]at h1 h3;subst h1;exact⟨v,h2,λσ2 K2 hx ho hK=>h3 σ2.env σ2.aa _ K2 ⟨hx,ho⟩ rfl hK⟩
end Go.Am

