import Derived.Test.YtodilglobhifaaaDoorX03
set_option linter.all false
set_option maxHeartbeats 0
set_option maxRecDepth 20000
open Bool renaming and_eq_true→bb
open List renaming mem_cons→cI,mem_of_getElem?→eh,getElem?_map→bR,getElem?_cons_zero→nh,getElem?_append_left→bL,getElem?_set_ne→cV,getElem?_cons_succ→sH,getElem?_append_right→dk,length_cons→b8,eq_nil_of_length_eq_zero→sM,getElem?_eq_some_iff→aF,getD_eq_getElem?_getD→an,mem_map_of_mem→xb,length_map→cU,mem_map→bS,all_eq_true→gx,map_congr_left→oo
open Option renaming map_eq_some_iff→qP,some→cB,map_some→fV
open Nat renaming lt_or_ge→cZ,le_refl→aH
open Array renaming toList_append→w9,getD_eq_getD_getElem?→cT,getElem?_append_left→uy,getElem?_toList→sG,getElem?_map→DU,getElem?_append_right→DV
namespace Go.Am
variable {P:Program}
mutual
def aG(ρ:Nat->Nat):AV->AV
 |.ref id sz off len=>.ref (ρ id) sz off len
 |.ptr id r c=>.ptr (ρ id) r c
 |.agg cs=>.agg (jQ ρ cs)
 |.bA cs=>.bA (jQ ρ cs)
 |.fn f cs=>.fn f (jQ ρ cs)
 |.dW t v=>.dW t (aG ρ v)
 |.cJ id=>.cJ (ρ id)
 |v=>v
def jQ(ρ:Nat->Nat):List AV->List AV
 |[]=>[]
 |v::vs=>aG ρ v::jQ ρ vs
end
def rq(ρ:Nat->Nat)(l:List AV):jQ ρ l=l.map (aG ρ):=by
 induction l with
 |nil=>simp[jQ]
 |cons v l ih=>simp[jQ,ih]
def bf(ρ:Nat->Nat):Ob->Ob
 |.gone=>.gone
 |.var cs=>.var (cs.map (aG ρ))
 |.arr sz rows=>.arr sz (rows.map (·.map (aG ρ)))
 |.mp ag L=>.mp ag (L.map λp=>(p.1,aG ρ p.2))
mutual
def flat:AV->Bool
 |.tree ..=>false
 |.bO _=>false
 |.agg cs=>th cs
 |.bA cs=>th cs
 |.fn _ cs=>th cs
 |.dW _ v=>flat v
 |_=>true
def th:List AV->Bool
 |[]=>true
 |v::vs=>flat v&&th vs
end
def AX{l:List AV}(h:th l=true):∀ v∈l,flat v=true:=by
 induction l with
 |nil=>intro v hv;simp at hv
 |cons x l ih =>
  simp only[th,bb]at h;intro v hv;rcases cI.1 hv with rfl|hv
  ·exact h.1
  ·exact ih h.2 v hv
def xL:Ob->Prop
 |.gone=>True
 |.var cs=>∀ v∈cs,flat v=true
 |.arr _ rows=>∀ row∈rows,∀ v∈row,flat v=true
 |.mp _ L=>∀ p∈L,flat p.2=true
def ah.NT{os:List Ob}{w:World}{Z Z':Nat->Prop}{blk:dK}{v:AV}{cv:Value}(h:ah os w Z blk v cv)(hf:flat v=true):ah os w Z' blk v cv:=by
 induction h with
 |undef cv=>exact .undef cv
 |bp v cv h=>cases h<;>first|exact .bp _ _ (.lit _)|simp[flat]at hf
 |bO=>simp[flat]at hf
 |ga id sz off len cv h h1=>exact .ga id sz off len cv h h1
 |iG id r c cv h h1=>exact .iG id r c cv h h1
 |ref id sz off len b o cap cap' rows h hb hl hc ed=>exact .ref id sz off len b o cap cap' rows h hb hl hc ed
 |gP id sz h hb=>exact .gP id sz h hb
 |iq id sz off b x bo rows h hb hl=>exact .iq id sz off b x bo rows h hb hl
 |iW id c b cap cells h hb=>exact .iW id c b cap cells h hb
 |jA id r c sz b o cap rows h hb=>exact .jA id r c sz b o cap rows h hb
 |agg cs aB hs _ ih=>simp only[flat]at hf;exact .agg cs aB hs (λj x hx=>ih j x hx (AX hf x (eh hx)))
 |bA cs aB hs _ ih=>simp only[flat]at hf;exact .bA cs aB hs (λj x hx=>ih j x hx (AX hf x (eh hx)))
 |fn f cs aB hs _ ih=>simp only[flat]at hf;exact .fn f cs aB hs (λj x hx=>ih j x hx (AX hf x (eh hx)))
 |dW t v cv _ ih=>simp only[flat]at hf;exact .dW t v cv (ih hf)
 |cJ id b ag L h hb=>exact .cJ id b ag L h hb
 |k8 id cv h h1=>exact .k8 id cv h h1
def ah.up{os os':List Ob}{w:World}{Z Z':Nat->Prop}{blk fA:dK}{ρ:Nat->Nat}{v:AV}{cv:Value}(h:ah os w Z blk v cv)(hz:∀ b,Z b->Z' b)(ho:∀ j o,os[j]?=some o->os'[ρ j]?=some (bf ρ o)/\(o≠.gone->fA (ρ j)=blk j)):ah os' w Z' fA (aG ρ v) cv:=by
 induction h with
 |undef cv=>exact .undef cv
 |bp v cv h =>
  have h':ah os' w Z' fA v cv:=.bp _ _ (h.mono (λb hb=>⟨hz b hb,rfl⟩));cases h<;>simpa [aG] using h'
 |bO cells b o f lQ hc ht=>exact .bO cells b o f (hz b lQ) hc (λj x hx=>(ht j x hx).mono (λb hb=>⟨hz b hb,rfl⟩))
 |ga id sz off len cv h h1=>exact .ga _ sz off len cv (ho id _ h).1 h1
 |iG id r c cv h h1=>exact .iG _ r c cv (ho id _ h).1 h1
 |ref id sz off len b o cap cap' rows h hb hl hc ed =>
  obtain⟨h1,h2⟩:=ho id _ h;exact .ref _ sz off len b o cap cap' _ h1 ((h2 Eb).trans hb) (by simpa using hl) hc ed
 |gP id sz h hb =>
  obtain⟨h1,h2⟩:=ho id _ h;exact .gP _ sz h1 ((h2 Eb).trans hb)
 |iq id sz off b x bo rows h hb hl =>
  obtain⟨h1,h2⟩:=ho id _ h;exact .iq _ sz off b x bo _ h1 ((h2 Eb).trans hb) (by simpa using hl)
 |iW id c b cap cells h hb =>
  obtain⟨h1,h2⟩:=ho id _ h;exact .iW _ c b cap _ h1 ((h2 Eb).trans hb)
 |jA id r c sz b o cap rows h hb =>
  obtain⟨h1,h2⟩:=ho id _ h;exact .jA _ r c sz b o cap _ h1 ((h2 Eb).trans hb)
 |agg cs aB hs _ ih =>
  simp only[aG,rq];refine .agg _ aB (by simpa using hs) (λj x hx=>?_);simp only[bR,qP]at hx;obtain⟨y,hy,rfl⟩:=hx;exact ih j y hy
 |bA cs aB hs _ ih =>
  simp only[aG,rq];refine .bA _ aB (by simpa using hs) (λj x hx=>?_);simp only[bR,qP]at hx;obtain⟨y,hy,rfl⟩:=hx;exact ih j y hy
 |fn f cs aB hs _ ih =>
  simp only[aG,rq];refine .fn f _ aB (by simpa using hs) (λj x hx=>?_);simp only[bR,qP]at hx;obtain⟨y,hy,rfl⟩:=hx;exact ih j y hy
 |dW t v cv _ ih=>simp only[aG];exact .dW t _ cv ih
 |cJ id b ag L h hb =>
  obtain⟨h1,h2⟩:=ho id _ h;exact .cJ _ b ag _ h1 ((h2 Eb).trans hb)
 |k8 id cv h h1=>exact .k8 _ cv (ho id _ h).1 h1
def uX{ρ:Nat->Nat}{o:Ob}:bf ρ o=.gone↔o=.gone:=by cases o<;>simp[bf]
def Ob.NU{ρ:Nat->Nat}{x y:Ob}(h:x.cA y):(bf ρ x).cA (bf ρ y):=by
 cases x<;>cases y<;>simp[Ob.cA,bf]at h ⊢<;>exact h
def ah.down{os os':List Ob}{w:World}{Z Z':Nat->Prop}{blk fA:dK}{ρ:Nat->Nat}{v:AV}{cv:Value}(h:ah os w Z blk v cv)(hz:∀ b,Z b->Z' b)(ho:∀ j x,os[ρ j]?=some x->∃ o,os'[j]?=some o/\(o=.gone\/(x=bf ρ o/\fA j=blk (ρ j)))):∀ v',v=aG ρ v'->ah os' w Z' fA v' cv:=by
 induction h with
 |undef cv=>intro v' hv;cases v'<;>simp[aG]at hv;exact .undef cv
 |bp v cv h =>
  intro v' hv;have h':ah os' w Z' fA v cv:=.bp _ _ (h.mono (λb hb=>⟨hz b hb,rfl⟩));cases h<;>cases v'<;>simp[aG]at hv<;>(first|(subst hv;exact h')|(obtain⟨rfl,rfl⟩:=hv;exact h'))
 |bO cells b o f lQ hc ht =>
  intro v' hv;cases v'<;>simp[aG]at hv;subst hv;exact .bO _ b o f (hz b lQ) hc (λj x hx=>(ht j x hx).mono (λb hb=>⟨hz b hb,rfl⟩))
 |ga id sz off len cv h h1 =>
  intro v' hv;cases v'<;>simp[aG]at hv;obtain⟨rfl,rfl,rfl,rfl⟩:=hv;obtain⟨o,h2,rfl |⟨h3,_⟩⟩:=ho _ _ h
  ·exact .ga _ _ _ _ cv h2 h1
  ·have:=uX.1 h3.symm;subst this;exact .ga _ _ _ _ cv h2 h1
 |iG id r c cv h h1 =>
  intro v' hv;cases v'<;>simp[aG]at hv;obtain⟨rfl,rfl,rfl⟩:=hv;obtain⟨o,h2,rfl |⟨h3,_⟩⟩:=ho _ _ h
  ·exact .iG _ _ _ cv h2 h1
  ·have:=uX.1 h3.symm;subst this;exact .iG _ _ _ cv h2 h1
 |ref id sz off len b o cap cap' rows h hb hl hc ed =>
  intro v' hv;cases v'<;>simp[aG]at hv;obtain⟨rfl,rfl,rfl,rfl⟩:=hv;obtain⟨x,h2,rfl |⟨h3,h4⟩⟩:=ho _ _ h
  ·exact .ga _ _ _ _ _ h2 rfl
  ·cases x<;>simp[bf]at h3;obtain⟨rfl,rfl⟩:=h3;exact .ref _ _ _ _ b o cap cap' _ h2 (h4.trans hb) (by simpa using hl) hc ed
 |gP id sz h hb =>
  intro v' hv;cases v'<;>simp[aG]at hv;obtain⟨rfl,rfl,rfl,rfl⟩:=hv;obtain⟨x,h2,rfl |⟨h3,h4⟩⟩:=ho _ _ h
  ·exact .ga _ _ _ _ _ h2 rfl
  ·cases x<;>simp[bf]at h3;obtain⟨rfl,h3⟩:=h3;subst h3;exact .gP _ _ h2 (h4.trans hb)
 |iq id sz off b x bo rows h hb hl =>
  intro v' hv;cases v'<;>simp[aG]at hv;obtain⟨rfl,rfl,rfl,rfl⟩:=hv;obtain⟨y,h2,rfl |⟨h3,h4⟩⟩:=ho _ _ h
  ·exact .ga _ _ _ _ _ h2 rfl
  ·cases y<;>simp[bf]at h3;obtain⟨rfl,rfl⟩:=h3;exact .iq _ _ _ b x bo _ h2 (h4.trans hb) (by simpa using hl)
 |iW id c b cap cells h hb =>
  intro v' hv;cases v'<;>simp[aG]at hv;obtain⟨rfl,rfl,rfl⟩:=hv;obtain⟨y,h2,rfl |⟨h3,h4⟩⟩:=ho _ _ h
  ·exact .iG _ _ _ _ h2 rfl
  ·cases y<;>simp[bf]at h3;exact .iW _ _ b cap _ h2 (h4.trans hb)
 |jA id r c sz b o cap rows h hb =>
  intro v' hv;cases v'<;>simp[aG]at hv;obtain⟨rfl,rfl,rfl⟩:=hv;obtain⟨y,h2,rfl |⟨h3,h4⟩⟩:=ho _ _ h
  ·exact .iG _ _ _ _ h2 rfl
  ·cases y<;>simp[bf]at h3;obtain⟨rfl,rfl⟩:=h3;exact .jA _ _ _ _ b o cap _ h2 (h4.trans hb)
 |agg cs aB hs _ ih =>
  intro v' hv;cases v'<;>simp[aG,rq]at hv;rename_i k9;subst hv;exact .agg _ aB (by simpa using hs) (λj x hx=>ih j (aG ρ x) (by simp[hx]) x rfl)
 |bA cs aB hs _ ih =>
  intro v' hv;cases v'<;>simp[aG,rq]at hv;rename_i k9;subst hv;exact .bA _ aB (by simpa using hs) (λj x hx=>ih j (aG ρ x) (by simp[hx]) x rfl)
 |fn f cs aB hs _ ih =>
  intro v' hv;cases v'<;>simp[aG,rq]at hv;obtain⟨rfl,hv⟩:=hv;subst hv;exact .fn _ _ aB (by simpa using hs) (λj x hx=>ih j (aG ρ x) (by simp[hx]) x rfl)
 |dW t v cv _ ih =>
  intro v' hv;cases v'<;>simp[aG]at hv;obtain⟨rfl,hv⟩:=hv;exact .dW _ _ cv (ih _ hv)
 |cJ id b ag L h hb =>
  intro v' hv;cases v'<;>simp[aG]at hv;subst hv;obtain⟨y,h2,rfl |⟨h3,h4⟩⟩:=ho _ _ h
  ·exact .k8 _ _ h2 rfl
  ·cases y<;>simp[bf]at h3;obtain⟨rfl,h3⟩:=h3;exact .cJ _ b _ _ h2 (h4.trans hb)
 |k8 id cv h h1 =>
  intro v' hv;cases v'<;>simp[aG]at hv;subst hv;obtain⟨y,h2,rfl |⟨h3,h4⟩⟩:=ho _ _ h
  ·exact .k8 _ _ h2 h1
  ·exact .k8 _ _ (by rw[h2,uX.1 h3.symm]) h1
def GP(P : Program)(f : FuncId): Prop := ∃ fn, P.funcs[f]? = some fn /\ (fn.name == "runtime.NumGoroutine") = false /\ fn.body.isNone = false
def ao(P:Program)(f:FuncId)(args:List AV)(aa:List Ob)(res:AV)(aL:List Ob):Prop :=
 GP P f/\∀ γ:Cx,γ.tmps.size=args.length->aK ⟨λk=>args.getD k .undef,aa⟩ γ ->
  Calls P f γ.tmps γ.w (λe w'=>∃ cv ak,e=.returned cv/\ak.w=w'/\ak.tmps = #[cv]/\aK ⟨λk=>[res].getD k .undef,aL⟩ ak/\Fr aa γ aL ak)
inductive cW(σ:St)(kp:Nat->Prop):AV->AV->Prop
 |lit (x:Value):cW σ kp (.lit x) (.lit x)
 |tree (s:Nat) (r:List (List AV)):cW σ kp (.tree s r) (.tree s r)
 |nil (sz:Nat):cW σ kp (.tree sz []) (.lit (.slice none 0 0))
 |ref (id sz off len:Nat) (rows dJ:List (List AV)) (g:Nat->Nat->AV) (ho:σ.aa[id]?=some (.arr sz rows)) (lO:¬ kp id) (hl:dJ.length=((rows.drop off).take len).length) (hw:∀ row∈dJ,row.length=sz)
   (h1:∀ r c v,cellAt dJ r c=some v->cellAt ((rows.drop off).take len) r c=some (g r c)) (h2:∀ r c v,cellAt dJ r c=some v->cW σ kp v (g r c)):cW σ kp (.tree sz dJ) (.ref id sz off len)
inductive bd(σ:St)(kp:Nat->Prop)(ρ:Nat->Nat)(snap:Bool):AV->AV->Prop
 |same (v:AV):bd σ kp ρ snap v (aG ρ v)
 |snap (c d:AV) (hs:snap=true) (h:cW σ kp c d):bd σ kp ρ snap c d
 |agg (cs ds:List AV) (hl:cs.length=ds.length) (h:∀ (j:Nat) c d,cs[j]?=some c->ds[j]?=some d->bd σ kp ρ snap c d):bd σ kp ρ snap (.agg cs) (.agg ds)
 |bA (cs ds:List AV) (hl:cs.length=ds.length) (h:∀ (j:Nat) c d,cs[j]?=some c->ds[j]?=some d->bd σ kp ρ snap c d):bd σ kp ρ snap (.bA cs) (.bA ds)
def a9(n:Nat)(ab:List Nat)(j:Nat):Nat:=if j<ab.length then ab.getD j 0 else n+(j-ab.length)
def dv(aa:List Ob):List Nat->List Ob->List Ob
 |i::ab,o::new=>dv (aa.set i o) ab new
 |[],new=>aa++new
 |_::_,[]=>aa
def AU(ab:List Nat):∀ (aa new:List Ob),ab.length<=new.length->(dv aa ab new).length=aa.length+(new.length-ab.length):=by
 induction ab with
 |nil=>intro aa new _;simp[dv]
 |cons i ab ih =>
  intro aa new h;cases new with
  |nil=>simp at h
  |cons o new=>simp only[dv];rw[ih _ _ (by simpa using h)];simp
def x6(ab:List Nat):∀ (aa new:List Ob),ab.length<=new.length->ab.Nodup->(∀ i∈ab,i<aa.length)->∀ j,j<ab.length->(dv aa ab new)[ab.getD j 0]?=new[j]?:=by
 induction ab with
 |nil=>intro aa new _ _ _ j hj;simp at hj
 |cons i ab ih =>
  intro aa new h hn hl j hj;cases new with
  |nil=>simp at h
  |cons o new =>
   simp only[dv];rw[List.nodup_cons]at hn;have hi:=hl i Eb;have h':ab.length<=new.length:=by simpa using h
   cases j with
   |zero =>
    simp only[List.getD_cons_zero,nh];have key:∀ (ab:List Nat) (aa new:List Ob),ab.length<=new.length->i ∉ ab->i<aa.length->(dv aa ab new)[i]?=aa[i]?:=by
     intro ab
     induction ab with
     |nil=>intro aa new _ _ hi;simp only[dv];rw[bL hi]
     |cons k ab NV =>
      intro aa new h nC hi;cases new with
      |nil=>simp at h
      |cons o new =>
       simp only[cI,not_or]at nC;simp only[dv];rw[NV _ _ (by simpa using h) nC.2 (by simpa using hi),cV (Ne.symm nC.1)]
    rw[key ab _ _ h' hn.1 (by simpa using hi)];simp[hi]
   |succ j =>
    simp only[List.getD_cons_succ,sH];exact ih _ _ h' hn.2 (λk hk=>by simpa using hl k (by simp[hk])) j (by simpa using hj)
def x7(ab:List Nat):∀ (aa new:List Ob),ab.length<=new.length->∀ i,i ∉ ab->i<aa.length->(dv aa ab new)[i]?=aa[i]?:=by
 induction ab with
 |nil=>intro aa new _ i _ hi;simp only[dv];rw[bL hi]
 |cons k ab ih =>
  intro aa new h i nC hi;cases new with
  |nil=>simp at h
  |cons o new =>
   simp only[cI,not_or]at nC;simp only[dv];rw[ih _ _ (by simpa using h) i nC.2 (by simpa using hi),cV (Ne.symm nC.1)]
def GN(ab:List Nat):∀ (aa new:List Ob),ab.length<=new.length->∀ m,(dv aa ab new)[aa.length+m]?=new[ab.length+m]?:=by
 induction ab with
 |nil=>intro aa new _ m;simp only[dv];rw[dk z8];simp
 |cons k ab ih =>
  intro aa new h m;cases new with
  |nil=>simp at h
  |cons o new =>
   simp only[dv];have:=ih (aa.set k o) new (by simpa using h) m;simp only[List.length_set]at this;rw[this];simp only[b8];have e:ab.length+1+m=(ab.length+m)+1:=z8;rw[e];simp
end Go.Am
namespace Go.Am
variable {P:Program}
def x8(P:Program)(f:FuncId)(args:List AV)(σ:St)(K:AV->St->Prop):Prop :=
 ∃ (ab:List Nat) (snap:Bool) (cE:List AV) (aV:List Ob) (res:AV) (bD:List Ob),ao P f cE aV res bD /\
  (ab.Nodup/\aV.length=ab.length/\(∀ (j:Nat) o,aV[j]?=some o->σ.aa[ab.getD j 0]?=some (bf (a9 σ.aa.length ab) o)) /\
   cE.length=args.length/\(∀ (j:Nat) c d,cE[j]?=some c->args[j]?=some d->bd σ (·∈ab) (a9 σ.aa.length ab) snap c d) /\
   (snap=true->flat res=true/\∀ o∈bD,xL o)) /\
  K (aG (a9 σ.aa.length ab) res) { σ with aa:=dv σ.aa ab (bD.map (bf (a9 σ.aa.length ab))) }
def cW.sX{σ:St}{γ:Cx}(h:aK σ γ){kp:Nat->Prop}{γc:Cx}(hz:∀ b,γ.Z b->γc.Z b)(hw:γc.w=γ.w)(AY:∀ id b o cap,¬ kp id->Live σ.aa id->γ.blk id=some (b,o,cap)->γc.Z b){c d:AV}(ha:cW σ kp c d):∀ cv,ah σ.aa γ.w γ.Z γ.blk d cv->dY γc.w γc.Z c cv:=by
 induction ha with
 |lit x=>intro cv hv;rw[hv.bw];exact .lit x
 |tree s r=>intro cv hv;exact hv.ti.mono (λb hb=>⟨hz b hb,by rw[hw]⟩)
 |nil sz=>intro cv hv;rw[hv.bw];exact .nil sz 0 none
 |ref id sz off len rows dJ g aS lO hl0 AQ cP b9 ih =>
  intro cv hv;obtain⟨h0,cF,NW⟩:=h.c9 id _ aS;have bc:Live σ.aa id:=⟨_,aS,Eb⟩;cases hv with
  |bp _ _ h=>cases h
  |ga _ _ _ _ _ h=>rw[aS]at h;simp at h
  |gP _ _ h' hb =>
   have:dJ=[]:=sM (by simpa using hl0);subst this;exact dY.nil sz 0 none
  |iq _ _ _ b x bo NX h' hb hl =>
   have:dJ=[]:=sM (by simpa using hl0);subst this;exact dY.nil sz 0 (some ⟨b,x,none⟩)
  |ref _ _ _ _ b o cap cap' NX h' hb hl hc ed =>
   rw[aS]at h';simp at h';subst h';rcases NW with⟨h1,_⟩|⟨b',o',uY,cur,t,h1,h2,h3,h4,h5,h6⟩
   ·rw[hb]at h1;simp at h1
   ·rw[hb]at h1;simp at h1;obtain⟨rfl,rfl,rfl⟩:=h1;have hlen:((rows.drop off).take len).length=len:=UU;have nD:∀ r c v,cellAt ((rows.drop off).take len) r c=some v->cellAt rows (off+r) c=some v/\r<len:=by
     intro r c v hv;simp only[cellAt,List.getElem?_take,List.getElem?_drop]at hv;split at hv
     ·exact⟨hv,by assumption⟩
     ·simp at hv
    have AZ:γc.Z b:=AY id b o cap lO bc hb;have:=dY.tree (w:=γc.w) (Z:=γc.Z) sz dJ b (o+off*sz) cap' (λr c=>cur.getD (o+((off+r)*sz+c)) Go.undef) AZ
     AQ (by rw[hl0,hlen];exact ed)
     (λr c v hv=>by
      obtain⟨mA,hr⟩:=nD r c _ (cP r c v hv);obtain⟨lR,rl⟩:=uZ cF mA;have aZ:=ru (show off+r<cap by omega) rl;rw[hw];have e:o+off*sz+(r*sz+c)=o+((off+r)*sz+c):=by rw[Nat.add_mul];omega
      rw[e];exact tj h2 z8)
     (λr c v hv=>by
      obtain⟨mA,_⟩:=nD r c _ (cP r c v hv);exact ih r c v hv _ (h6 _ _ _ mA))
    rw[hl0,hlen]at this;exact this
def bd.rel{σ:St}{γ:Cx}(h:aK σ γ){kp:Nat->Prop}{ρ:Nat->Nat}{aV:List Ob}{snap:Bool}{γc:Cx}(hz:∀ b,γ.Z b->γc.Z b)(hw:γc.w=γ.w)(AY:snap=true->∀ id b o cap,¬ kp id->Live σ.aa id->γ.blk id=some (b,o,cap)->γc.Z b)(ho:∀ j x,σ.aa[ρ j]?=some x->∃ o,aV[j]?=some o/\(o=.gone\/(x=bf ρ o/\γc.blk j=γ.blk (ρ j)))){c d:AV}(ha:bd σ kp ρ snap c d):∀ cv,ah σ.aa γ.w γ.Z γ.blk d cv->ah aV γc.w γc.Z γc.blk c cv:=by
 induction ha with
 |same v =>
  intro cv hv;rw[hw];exact hv.down hz ho v rfl
 |snap c d hs hf =>
  intro cv hv;exact .bp _ _ (hf.sX h hz hw (AY hs) cv hv)
 |agg cs ds hl _ ih =>
  intro cv hv;obtain⟨aB,rfl,h1,h2⟩:=hv.GQ;refine .agg cs aB z8 (λj x hx=>?_);have hj:j<ds.length:=by have:=(aF.1 hx).1;omega
  exact ih j x ds[j] hx (by simp[hj]) _ (h2 j _ (by simp[hj]))
 |bA cs ds hl _ ih =>
  intro cv hv;obtain⟨aB,rfl,h1,h2⟩:=hv.GR;refine .bA cs aB z8 (λj x hx=>?_);have hj:j<ds.length:=by have:=(aF.1 hx).1;omega
  exact ih j x ds[j] hx (by simp[hj]) _ (h2 j _ (by simp[hj]))
def GS{n:Nat}{ab:List Nat}(_hs:∀ i∈ab,i<n){j:Nat}(h:a9 n ab j<n):j<ab.length/\a9 n ab j=ab.getD j 0:=by
 unfold a9 at h ⊢;split
 ·exact⟨by assumption,rfl⟩
 ·rename_i hj;rw[if_neg hj]at h;omega
def aO{ab:List Nat}{j:Nat}(h:j<ab.length):ab.getD j 0∈ab:=by
 rw[an];simp[h]
def GU{ab:List Nat}(hn:ab.Nodup){i j:Nat}(hi:i<ab.length)(hj:j<ab.length)(h:ab.getD i 0=ab.getD j 0):i=j:=by
 rw[an,an]at h;simp[hi,hj]at h;exact(List.getElem_inj hn).1 h
def x9{ab:List Nat}{i:Nat}(h:i∈ab):∃j,j<ab.length/\ab.getD j 0=i:=by
 obtain⟨j,hj⟩:=List.mem_iff_getElem?.1 h;have:=(aF.1 hj).1;exact⟨j,this,by rw[an,hj];rfl⟩
def fX(P:Program)(f:FuncId)(args:List AV)(aa:List Ob)(ej:AV->List Ob->Prop):Prop :=
 GP P f/\∀ γ:Cx,γ.tmps.size=args.length->aK ⟨λk=>args.getD k .undef,aa⟩ γ ->
  Calls P f γ.tmps γ.w (λe w'=>∃ res aL cv ak,ej res aL/\e=.returned cv/\ak.w=w'/\ak.tmps = #[cv]/\aK ⟨λk=>[res].getD k .undef,aL⟩ ak/\Fr aa γ aL ak)
def AE(P:Program)(f:FuncId)(args:List AV)(σ:St)(K:AV->St->Prop):Prop :=
 ∃ (ab:List Nat) (snap:Bool) (cE:List AV) (aV:List Ob) (ej:AV->List Ob->Prop),fX P f cE aV ej /\
  (ab.Nodup/\aV.length=ab.length/\(∀ (j:Nat) o,aV[j]?=some o->σ.aa[ab.getD j 0]?=some (bf (a9 σ.aa.length ab) o)) /\
   cE.length=args.length/\(∀ (j:Nat) c d,cE[j]?=some c->args[j]?=some d->bd σ (·∈ab) (a9 σ.aa.length ab) snap c d)) /\
  ∀ res bD,ej res bD->(snap=true->flat res=true/\∀ o∈bD,xL o) /\
   K (aG (a9 σ.aa.length ab) res) { σ with aa:=dv σ.aa ab (bD.map (bf (a9 σ.aa.length ab))) }
def AG{σ:St}{γ:Cx}(h:aK σ γ){f:FuncId}{args:List AV}{argv:Array Value}(ay:argv.size=args.length)(A0:∀ (j:Nat) d,args[j]?=some d->ah σ.aa γ.w γ.Z γ.blk d (argv.getD j Go.undef)){K:AV->St->Prop}(hc:AE P f args σ K):
  Calls P f argv γ.w (λe w'=>∃ cv v σ' ak,e=.returned cv/\ak.w=w'/\ak.tmps=γ.tmps/\aK σ' ak/\Fr σ.aa γ σ'.aa ak/\ah σ'.aa ak.w ak.Z ak.blk v cv/\K v σ'/\σ'.env=σ.env):=by
 obtain⟨ab,snap,cE,aV,ej,hH,⟨cm,dj,mF,gz,ig⟩,NY⟩:=hc;have gQ:∀ i∈ab,i<σ.aa.length:=by
  intro i hi;obtain⟨j,hj,rfl⟩:=x9 hi;have:j<aV.length:=z8;exact(aF.1 (mF j aV[j] (by simp[this]))).1
 let ρ:=a9 σ.aa.length ab
 let S:Nat->Prop:=λb=>snap=true/\∃ id o cap,id ∉ ab/\Live σ.aa id/\γ.blk id=some (b,o,cap)
 let γc:Cx:={ w:=γ.w,tmps:=argv,Z:=λb=>γ.Z b\/S b,blk:=λj=>if j<ab.length then γ.blk (ab.getD j 0) else none }
 have oE:∀ j x,σ.aa[ρ j]?=some x->∃ o,aV[j]?=some o/\(o=.gone\/(x=bf ρ o/\γc.blk j=γ.blk (ρ j))):=by
  intro j x hx;obtain⟨hj,hr⟩:=GS gQ (aF.1 hx).1;have gm:j<aV.length:=z8;have:=mF j aV[j] (by simp[gm]);refine⟨aV[j],by simp[gm],.inr ⟨?_,?_⟩⟩
  ·have bF:σ.aa[a9 σ.aa.length ab j]?=some x:=hx;rw[hr,this]at bF;simpa using bF.symm
  ·show(if j<ab.length then γ.blk (ab.getD j 0) else none)=γ.blk (a9 σ.aa.length ab j);rw[if_pos hj,hr]
 have eM:∀ b,γ.Z b->γc.Z b:=λb hb=>.inl hb;have nE:∀ j,Live aV j->Live σ.aa (ab.getD j 0)/\j<ab.length:=by
  rintro j⟨o,ho,hg⟩;have hj:=(aF.1 ho).1;exact⟨⟨_,mF j o ho,λe=>hg (uX.1 e)⟩,z8⟩
 have nF:=λ{i b o c}=>h.blt (i:=i) (b:=b) (o:=o) (c:=c);have A1:aK ⟨λk=>cE.getD k .undef,aV⟩ γc:=by
  refine⟨λk=>?_,?_,?_,?_,?_,λg=>rf (h.gl g) λb hb=>⟨eM b hb,rfl⟩⟩
  ·rcases cZ k cE.length with hk|hk
   ·have e:cE.getD k .undef=cE[k]:=by simp[hk]
    show ah aV γc.w γc.Z γc.blk (cE.getD k .undef) _;rw[e];have GV:k<args.length:=z8;exact(ig k cE[k] args[k] (by simp[hk]) (by simp[GV])).rel h eM rfl (λhs id b o cap bZ hl hb=>.inr ⟨hs,id,o,cap,bZ,hl,hb⟩) oE _ (A0 k _ (by simp[GV]))
   ·have e:cE.getD k .undef=.undef:=by simp[hk]
    show ah aV γc.w γc.Z γc.blk (cE.getD k .undef) _;rw[e];exact .undef _
  ·intro j o ho;have hj:=(aF.1 ho).1;have u3:j<ab.length:=by rw[<- dj];exact hj
   have aS:=h.c9 _ _ (mF j o ho);have hb:γc.blk j=γ.blk (ab.getD j 0):=by show(if j<ab.length then _ else _)=_;rw[if_pos u3]
   cases o with
   |gone=>trivial
   |var cells =>
    obtain⟨b,cap,cur,t,h1,h2,h3,h4⟩:=aS;exact⟨b,cap,cur,t,hb.trans h1,h2,by simpa using h3,λc v hv=>(h4 c (aG ρ v) (by simp[hv];rfl)).down eM oE v rfl⟩
   |mp ag L =>
    obtain⟨b,f,h1,h2,h3,h4⟩:=aS;refine⟨b,f,hb.trans h1,?_,λp hp=>h3 (p.1,aG ρ p.2) (xb (f:=λp:List Int×AV=>(p.1,aG ρ p.2)) hp),λj p hp=>(h4 j (p.1,aG ρ p.2) (by simp only[bR,hp];rfl)).down eM oE p.2 rfl⟩;rw[A2,cU]at h2;exact h2
   |arr sz rows =>
    obtain⟨h0,hr,aS⟩:=aS;refine⟨h0,λrow aM=>by simpa using hr (row.map (aG ρ)) (xb aM),?_⟩;rcases aS with⟨h1,h2⟩|⟨b,o,cap,cur,t,h1,h2,h3,h4,h5,h6⟩
    ·exact .inl ⟨hb.trans h1,by simpa using h2⟩
    ·refine .inr ⟨b,o,cap,cur,t,hb.trans h1,h2,h3,by simpa using h4,h5,λr c v hv=>(h6 r c (aG ρ v) ?_).down eM oE v rfl⟩;simp only[cellAt,bR]at hv ⊢;cases gR:rows[r]? with
     |none=>simp[gR]at hv
     |some row=>simp[gR]at hv ⊢;exact⟨v,hv,rfl⟩
  ·intro i j b o c o' c' hi hj dT dU;obtain⟨h1,h2⟩:=nE i hi;obtain⟨h3,h4⟩:=nE j hj;have e1:γc.blk i=γ.blk (ab.getD i 0):=by show(if i<ab.length then _ else _)=_;rw[if_pos h2]
   have e2:γc.blk j=γ.blk (ab.getD j 0):=by show(if j<ab.length then _ else _)=_;rw[if_pos h4]
   exact GU cm h2 h4 (h.inj _ _ b o c o' c' h1 h3 (e1▸dT) (e2▸dU))
  ·rintro b ⟨i,o,c,hi,hb⟩ hz;obtain⟨h1,h2⟩:=nE i hi;have e1:γc.blk i=γ.blk (ab.getD i 0):=by show(if i<ab.length then _ else _)=_;rw[if_pos h2]
   rw[e1]at hb;rcases hz with hz|⟨_,id,o',cap',bZ,hl,bq⟩
   ·exact h.nz b ⟨_,o,c,h1,hb⟩ hz
   ·have:=h.inj _ _ b o c o' cap' h1 hl hb bq;exact bZ (this▸aO h2)
  ·rintro b (hb|⟨_,id,o,cap,_,hl,hb⟩)
   ·exact h.eF b hb
   ·exact nF hl hb
 have dX:=hH.2 γc (by show argv.size=_;omega) A1;refine dX.mono ?_;rintro e w'⟨res,bD,cv,ak,AA,rfl,rfl,A3,fq,dq⟩;obtain⟨GW,hK⟩:=NY res bD AA;have NZ:ab.length<=bD.length:=by have:=dq.len;omega
 let new:=bD.map (bf ρ)
 have aq:ab.length<=new.length:=by simpa [new] using NZ
 let j3:=dv σ.aa ab new
 let eK:Cx:={ w:=ak.w,tmps:=γ.tmps,Z:=λb=>ak.Z b/\¬ S b,blk:=λi=>if i<σ.aa.length then γ.blk i else ak.blk (ab.length+(i-σ.aa.length)) }
 have u4:∀ j o,bD[j]?=some o->j3[ρ j]?=some (bf ρ o)/\(o≠.gone->eK.blk (ρ j)=ak.blk j):=by
  intro j o ho;by_cases hj:j<ab.length
  ·have e:ρ j=ab.getD j 0:=by show a9 _ _ _=_;simp only[a9];rw[if_pos hj]
   have cO:=gQ _ (aO hj);refine⟨?_,λhg=>?_⟩
   ·rw[e];show(dv σ.aa ab new)[ab.getD j 0]?=_;rw[x6 ab σ.aa new aq cm gQ j hj];simp[new,ho]
   ·rw[e];show(if ab.getD j 0<σ.aa.length then _ else _)=_;rw[if_pos cO];have:=(dq.gf j z8 ⟨o,ho,hg⟩).1;rw[this];show _=if j<ab.length then _ else _;rw[if_pos hj]
  ·have e:ρ j=σ.aa.length+(j-ab.length):=by show a9 _ _ _=_;simp only[a9];rw[if_neg hj]
   have e2:ab.length+(j-ab.length)=j:=z8;refine⟨?_,λhg=>?_⟩
   ·rw[e];show(dv σ.aa ab new)[_]?=_;rw[GN ab σ.aa new aq,e2];simp[new,ho]
   ·rw[e];show(if σ.aa.length+(j-ab.length)<σ.aa.length then _ else ak.blk (ab.length+(σ.aa.length+(j-ab.length)-σ.aa.length)))=_;rw[if_neg z8];congr 1;omega
 have GX:∀ b,S b->¬ γ.Z b:=by
  rintro b⟨_,id,o,cap,_,hl,hb⟩;exact h.nz b ⟨id,o,cap,hl,hb⟩
 have tn:∀ b,j4 aV γc.blk b->∃ i∈ab,∃ o cap,Live σ.aa i/\γ.blk i=some (b,o,cap):=by
  rintro b⟨j,o,c,hl,hb⟩;obtain⟨h1,h2⟩:=nE j hl;have e1:γc.blk j=γ.blk (ab.getD j 0):=by show(if j<ab.length then _ else _)=_;rw[if_pos h2]
  exact⟨_,aO h2,o,c,h1,e1▸hb⟩
 have N0:∀ i,i ∉ ab->Live σ.aa i->∀ b o c,γ.blk i=some (b,o,c)->ak.w.heap[b]?=γ.w.heap[b]?:=by
  intro i hi hl b o c hb;refine dq.cg b (nF hl hb) (λho=>?_);obtain⟨i',hi',o',c',fY,bq⟩:=tn b ho;have:=h.inj _ _ b o c o' c' hl fY hb bq;exact hi (this▸hi')
 have A4:∀ v cv,ah σ.aa γ.w γ.Z γ.blk v cv->ah j3 eK.w eK.Z eK.blk v cv:=by
  intro v cv hv;refine hv.mono (λb hb=>⟨⟨dq.z0 b (eM b hb),λhs=>GX b hs hb⟩,?_⟩) (λi o ho=>?_)
  ·refine dq.cg b (h.eF b hb) (λho=>?_);obtain⟨i',_,o',c',fY,bq⟩:=tn b ho;exact h.nz b ⟨i',o',c',fY,bq⟩ hb
  ·have hi:=(aF.1 ho).1;have dr:eK.blk i=γ.blk i:=by show(if i<σ.aa.length then _ else _)=_;rw[if_pos hi]
   by_cases iX:i∈ab
   ·obtain⟨j,hj,rfl⟩:=x9 iX;have gm:j<bD.length:=z8;have rv:j3[ab.getD j 0]?=some (bf ρ bD[j]):=by
     show(dv σ.aa ab new)[ab.getD j 0]?=_;rw[x6 ab σ.aa new aq cm gQ j hj];simp[new,gm]
    by_cases hg:bD[j]=.gone
    ·left;rw[rv,hg];rfl
    ·right;refine⟨dr,_,rv,?_⟩;obtain⟨_,x,x',hx,bF,j5⟩:=dq.gf j z8 ⟨bD[j],by simp[gm],hg⟩;have e1:bD[j]=x':=by simpa [gm] using bF
     have e2:=mF j x hx;rw[ho]at e2;simp at e2;rw[e1,e2];exact Ob.NU j5
   ·have rv:j3[i]?=some o:=by
     show(dv σ.aa ab new)[i]?=_;rw[x7 ab σ.aa new aq i iX hi];exact ho
    by_cases hg:o=.gone
    ·subst hg;exact .inl rv
    ·exact .inr ⟨dr,o,rv,Ob.fv hg⟩
 have ya:∀ v cv,ah bD ak.w ak.Z ak.blk v cv->(snap=true->flat v=true)->ah j3 eK.w eK.Z eK.blk (aG ρ v) cv:=by
  intro v cv hv fh;by_cases iH:snap=true
  ·exact(hv.NT (Z':=eK.Z) (fh iH)).up (λb hb=>hb) u4
  ·exact hv.up (λb hb=>⟨hb,λhs=>iH hs.1⟩) u4
 have lS:∀ i,Live j3 i->(i<σ.aa.length/\i ∉ ab/\Live σ.aa i/\eK.blk i=γ.blk i)\/∃ j,Live bD j/\i=ρ j/\eK.blk i=ak.blk j:=by
  rintro i⟨o,ho,hg⟩;have hlen:=(aF.1 ho).1;have gk:j3.length=σ.aa.length+(new.length-ab.length):=AU ab σ.aa new aq;have TZ:new.length=bD.length:=by simp[new]
  rcases cZ i σ.aa.length with hi|hi
  ·by_cases iX:i∈ab
   ·right;obtain⟨j,hj,rfl⟩:=x9 iX;have gm:j<bD.length:=z8;have e:ρ j=ab.getD j 0:=by show a9 _ _ _=_;simp only[a9];rw[if_pos hj]
    have hx:=u4 j bD[j] (by simp[gm]);rw[e]at hx;rw[ho]at hx;simp only[cB.injEq]at hx;have aW:bD[j]≠.gone:=by intro h0;apply hg;rw[hx.1,h0];rfl
    exact⟨j,⟨_,by simp[gm],aW⟩,e.symm,hx.2 aW⟩
   ·left;have:j3[i]?=σ.aa[i]?:=x7 ab σ.aa new aq i iX hi;rw[this]at ho;exact⟨hi,iX,⟨o,ho,hg⟩,by show(if i<σ.aa.length then _ else _)=_;rw[if_pos hi]⟩
  ·right;have gm:ab.length+(i-σ.aa.length)<bD.length:=z8;have e:ρ (ab.length+(i-σ.aa.length))=i:=by
    show a9 _ _ _=_;simp only[a9];rw[if_neg z8];omega
   have hx:=u4 _ _ (show bD[ab.length+(i-σ.aa.length)]?=some bD[ab.length+(i-σ.aa.length)] by simp[gm]);rw[e]at hx;rw[ho]at hx;simp only[cB.injEq]at hx;have aW:bD[ab.length+(i-σ.aa.length)]≠.gone:=by intro h0;apply hg;rw[hx.1,h0];rfl
   exact⟨_,⟨_,by simp[gm],aW⟩,e.symm,hx.2 aW⟩
 have A5:∀ j b o c,Live bD j->ak.blk j=some (b,o,c)->(∃ i∈ab,∃ o cap,Live σ.aa i/\γ.blk i=some (b,o,cap))\/γ.w.heap.size<=b:=by
  intro j b o c hl hb;rcases dq.own b ⟨j,o,c,hl,hb⟩ with h1|h1
  ·exact .inl (tn b h1)
  ·exact .inr h1
 have N1:aK ⟨σ.env,j3⟩ eK:=by
  refine⟨λk=>A4 _ _ (h.ax k),?_,?_,?_,?_,λg=>A4 _ _ (h.gl g)⟩
  ·intro i o ho;by_cases bK:o=.gone
   ·subst bK;trivial
   rcases lS i ⟨o,ho,bK⟩ with⟨hi,iX,hl,dr⟩|⟨j,⟨x,hx,da⟩,rfl,dr⟩
   ·have he:j3[i]?=σ.aa[i]?:=x7 ab σ.aa new aq i iX hi;have bW:σ.aa[i]?=some o:=by rw[<- he];exact ho
    exact(h.c9 i o bW).mono A4 dr (λb o c hb=>N0 i iX hl b o c hb)
   ·have N2:=(u4 j x hx).1;have e:o=bf ρ x:=by
     have:j3[ρ j]?=some o:=ho;rw[N2]at this;simpa using this.symm
    subst e;have aS:=fq.c9 j x hx;have fh:snap=true->xL x:=λhs=>(GW hs).2 x (eh hx);cases x with
    |gone=>trivial
    |var cells =>
     obtain⟨b,cap,cur,t,h1,h2,h3,h4⟩:=aS;refine⟨b,cap,cur,t,dr.trans h1,h2,by simpa using h3,λc v hv=>?_⟩;simp only[bR,qP]at hv;obtain⟨y,hy,rfl⟩:=hv;exact ya _ _ (h4 c y hy) (λhs=>fh hs y (eh hy))
    |mp ag L =>
     obtain⟨b,f,h1,h2,h3,h4⟩:=aS;refine⟨b,f,dr.trans h1,?_,λp hp=>?_,λj p hp=>?_⟩
     ·rw[A2,cU];exact h2
     ·obtain⟨y,hy,rfl⟩:=bS.1 hp;exact h3 y hy
     ·simp only[bR,qP]at hp;obtain⟨y,hy,rfl⟩:=hp;exact ya _ _ (h4 j y hy) (λhs=>fh hs y (eh hy))
    |arr sz rows =>
     obtain⟨h0,hr,aS⟩:=aS;refine⟨h0,?_,?_⟩
     ·intro row aM;simp only[bS]at aM;obtain⟨y,hy,rfl⟩:=aM;simpa using hr y hy
     ·rcases aS with⟨h1,h2⟩|⟨b,o,cap,cur,t,h1,h2,h3,h4,h5,h6⟩
      ·exact .inl ⟨dr.trans h1,by simpa using h2⟩
      ·refine .inr ⟨b,o,cap,cur,t,dr.trans h1,h2,h3,by simpa using h4,h5,λr c v hv=>?_⟩;simp only[cellAt,bR]at hv;cases gR:rows[r]? with
       |none=>simp[gR]at hv
       |some row =>
        simp only[gR,fV,Option.bind_some,bR,qP]at hv;obtain⟨y,hy,rfl⟩:=hv;exact ya _ _ (h6 r c y (by simp[cellAt,gR,hy])) (λhs=>fh hs row (eh gR) y (eh hy))
  ·intro i j b o c o' c' hi hj dT dU;rcases lS i hi with⟨cQ,iX,oF,dr⟩|⟨ji,dt,rfl,dr⟩<;>rcases lS j hj with⟨eE,u3,A6,u5⟩|⟨jj,GY,rfl,u5⟩
   ·exact h.inj i j b o c o' c' oF A6 (dr▸dT) (u5▸dU)
   ·rw[dr]at dT;rw[u5]at dU;rcases A5 jj b o' c' GY dU with⟨i',hi',o1,c1,fY,bq⟩|gN
    ·exact absurd (h.inj i i' b o c o1 c1 oF fY dT bq) (λe=>iX (e▸hi'))
    ·have:=nF oF dT;omega
   ·rw[dr]at dT;rw[u5]at dU;rcases A5 ji b o c dt dT with⟨i',hi',o1,c1,fY,bq⟩|gN
    ·exact absurd (h.inj j i' b o' c' o1 c1 A6 fY dU bq) (λe=>u3 (e▸hi'))
    ·have:=nF A6 dU;omega
   ·rw[dr]at dT;rw[u5]at dU;rw[fq.inj ji jj b o c o' c' dt GY dT dU]
  ·rintro b ⟨i,o,c,hi,hb⟩ ⟨hz,A7⟩;rcases lS i hi with⟨cQ,iX,oF,dr⟩|⟨ji,dt,rfl,dr⟩
   ·rw[dr]at hb;rcases dq.z1 b hz with(h1|h1)|h1|h1
    ·exact h.nz b ⟨i,o,c,oF,hb⟩ h1
    ·exact A7 h1
    ·obtain⟨i',hi',o1,c1,fY,bq⟩:=tn b h1;exact iX ((h.inj i i' b o c o1 c1 oF fY hb bq)▸hi')
    ·have:=nF oF hb;have oG:γ.w.heap.size<=b:=h1;omega
   ·rw[dr]at hb;exact fq.nz b ⟨ji,o,c,dt,hb⟩ hz
  ·rintro b ⟨hz,_⟩;exact fq.eF b hz
 refine⟨cv,aG ρ res,⟨σ.env,j3⟩,eK,rfl,rfl,rfl,N1,?_,?_,hK,rfl⟩
 ·refine⟨dq.ij,dq.tape,dq.output,dq.size,?_,?_,?_,?_,?_,?_⟩
  ·intro b hb jB;refine dq.cg b hb (λho=>jB ?_);obtain⟨i',_,o1,c1,fY,bq⟩:=tn b ho;exact⟨i',o1,c1,fY,bq⟩
  ·intro b hb;exact⟨dq.z0 b (eM b hb),λhs=>GX b hs hb⟩
  ·rintro b ⟨hz,A7⟩;rcases dq.z1 b hz with(h1|h1)|h1|h1
   ·exact .inl h1
   ·exact absurd h1 A7
   ·obtain⟨i',_,o1,c1,fY,bq⟩:=tn b h1;exact .inr (.inl ⟨i',o1,c1,fY,bq⟩)
   ·exact .inr (.inr h1)
  ·rintro b ⟨i,o,c,hi,hb⟩;rcases lS i hi with⟨cQ,iX,oF,dr⟩|⟨ji,dt,rfl,dr⟩
   ·rw[dr]at hb;exact .inl ⟨i,o,c,oF,hb⟩
   ·rw[dr]at hb;rcases A5 ji b o c dt hb with⟨i',_,o1,c1,fY,bq⟩|gN
    ·exact .inl ⟨i',o1,c1,fY,bq⟩
    ·exact .inr gN
  ·show σ.aa.length<=(dv σ.aa ab new).length;rw[AU ab σ.aa new aq];omega
  ·rintro i hi ⟨o,ho,hg⟩;refine⟨by show(if i<σ.aa.length then _ else _)=_;rw[if_pos hi],?_⟩;by_cases iX:i∈ab
   ·obtain⟨j,hj,rfl⟩:=x9 iX;have gm:j<bD.length:=z8;have rv:j3[ab.getD j 0]?=some (bf ρ bD[j]):=by
     show(dv σ.aa ab new)[ab.getD j 0]?=_;rw[x6 ab σ.aa new aq cm gQ j hj];simp[new,gm]
    have cw:j3[ab.getD j 0]?=some o:=ho;rw[rv]at cw;simp only[cB.injEq]at cw;have aW:bD[j]≠.gone:=by intro h0;apply hg;rw[<- cw,h0];rfl
    obtain⟨_,x,x',hx,bF,j5⟩:=dq.gf j z8 ⟨bD[j],by simp[gm],aW⟩;have e1:bD[j]=x':=by simpa [gm] using bF
    refine⟨bf ρ x,o,mF j x hx,ho,?_⟩;rw[<- cw,e1];cases x<;>cases x'<;>simp_all [Ob.cA,bf]
   ·have he:j3[i]?=σ.aa[i]?:=x7 ab σ.aa new aq i iX hi;have bW:σ.aa[i]?=some o:=by rw[<- he];exact ho
    exact⟨o,o,bW,ho,Ob.fv hg⟩
 ·have:=fq.ax 0;rw[A3]at this;exact ya res cv (by simpa using this) (λhs=>(GW hs).1)
def ao.r{f:FuncId}{args:List AV}{aa:List Ob}{res:AV}{aL:List Ob}(h:ao P f args aa res aL):fX P f args aa (λr os=>r=res/\os=aL) :=
 ⟨h.1,λγ ay hs=>(h.2 γ ay hs).mono λ_ _ ⟨cv,ak,h1,h2,h3,h4,h5⟩=>⟨res,aL,cv,ak,⟨rfl,rfl⟩,h1,h2,h3,h4,h5⟩⟩
def x8.r{f:FuncId}{args:List AV}{σ:St}{K:AV->St->Prop}(h:x8 P f args σ K):AE P f args σ K:=by
 obtain⟨ab,snap,cE,aV,res,bD,h1,⟨h2,h3,h4,h5,h6,h7⟩,h8⟩:=h;exact⟨ab,snap,cE,aV,_,h1.r,⟨h2,h3,h4,h5,h6⟩,λr os ⟨e1,e2⟩=>by subst e1;subst e2;exact⟨h7,h8⟩⟩
def GZ{σ:St}{γ:Cx}(h:aK σ γ){f:FuncId}{args:List AV}{argv:Array Value}(ay:argv.size=args.length)(A0:∀ (j:Nat) d,args[j]?=some d->ah σ.aa γ.w γ.Z γ.blk d (argv.getD j Go.undef)){K:AV->St->Prop}(hc:x8 P f args σ K):
  Calls P f argv γ.w (λe w'=>∃ cv v σ' ak,e=.returned cv/\ak.w=w'/\ak.tmps=γ.tmps/\aK σ' ak/\Fr σ.aa γ σ'.aa ak/\ah σ'.aa ak.w ak.Z ak.blk v cv/\K v σ'/\σ'.env=σ.env) :=
 AG h ay A0 hc.r
end Go.Am
namespace Go.Am
variable {P:Program}
def aK.select{σ:St}{γ:Cx}(h:aK σ γ)(ab:List Nat)(snap:Bool)(aV:List Ob)(cm:ab.Nodup)(dj:aV.length=ab.length)(mF:∀ (j:Nat) o,aV[j]?=some o->o=.gone\/σ.aa[ab.getD j 0]?=some (bf (a9 σ.aa.length ab) o))(gQ:∀ i∈ab,i<σ.aa.length)(e:Nat->AV)(tm:Array Value)(he:∀ k,e k=.undef\/∃ d,bd σ (λid=>∃ j,j<ab.length/\ab.getD j 0=id/\aV[j]?≠some .gone) (a9 σ.aa.length ab) snap (e k) d/\ah σ.aa γ.w γ.Z γ.blk d (tm.getD k Go.undef)):
  ∃ ak,ak.w=γ.w/\ak.tmps=tm/\aK ⟨e,aV⟩ ak/\((∀ i,i<aV.length->ak.blk i=γ.blk (ab.getD i 0))/\(∀ b,γ.Z b->ak.Z b)/\(∀ b,ak.Z b->γ.Z b\/j4 σ.aa γ.blk b) /\
   ∀ i,Live aV i->Live σ.aa (ab.getD i 0)/\∃ o,aV[i]?=some o/\σ.aa[ab.getD i 0]?=some (bf (a9 σ.aa.length ab) o)):=by
 let ρ:=a9 σ.aa.length ab
 let kp:Nat->Prop:=λid=>∃ j,j<ab.length/\ab.getD j 0=id/\aV[j]?≠some .gone
 let S:Nat->Prop:=λb=>snap=true/\∃ id o cap,¬ kp id/\Live σ.aa id/\γ.blk id=some (b,o,cap)
 let γc:Cx:={ w:=γ.w,tmps:=tm,Z:=λb=>γ.Z b\/S b,blk:=λj=>if j<ab.length then γ.blk (ab.getD j 0) else none }
 have oE:∀ j x,σ.aa[ρ j]?=some x->∃ o,aV[j]?=some o/\(o=.gone\/(x=bf ρ o/\γc.blk j=γ.blk (ρ j))):=by
  intro j x hx;obtain⟨hj,hr⟩:=GS gQ (aF.1 hx).1;have gm:j<aV.length:=z8;refine⟨aV[j],by simp[gm],?_⟩;rcases mF j aV[j] (by simp[gm]) with hg|this
  ·exact .inl hg
  ·right;refine⟨?_,?_⟩
   ·have bF:σ.aa[a9 σ.aa.length ab j]?=some x:=hx;rw[hr,this]at bF;simpa using bF.symm
   ·show(if j<ab.length then γ.blk (ab.getD j 0) else none)=γ.blk (a9 σ.aa.length ab j);rw[if_pos hj,hr]
 have eM:∀ b,γ.Z b->γc.Z b:=λb hb=>.inl hb;have nE:∀ j,Live aV j->Live σ.aa (ab.getD j 0)/\j<ab.length/\kp (ab.getD j 0)/\∃ o,aV[j]?=some o/\σ.aa[ab.getD j 0]?=some (bf ρ o):=by
  rintro j⟨o,ho,hg⟩;have hj:=(aF.1 ho).1;rcases mF j o ho with h'|h'
  ·exact absurd h' hg
  ·exact⟨⟨_,h',λe=>hg (uX.1 e)⟩,z8,⟨j,z8,rfl,by rw[ho];simpa using hg⟩,o,ho,h'⟩
 have jC:∀ j,j<ab.length->γc.blk j=γ.blk (ab.getD j 0):=λj hj=>by show(if j<ab.length then _ else _)=_;rw[if_pos hj]
 have A1:aK ⟨e,aV⟩ γc:=by
  refine⟨λk=>?_,?_,?_,?_,?_,λg=>rf (h.gl g) λb hb=>⟨eM b hb,rfl⟩⟩
  ·rcases he k with h0|⟨d,hd,hr⟩
   ·show ah aV γc.w γc.Z γc.blk (e k) _;rw[h0];exact .undef _
   ·exact hd.rel h eM rfl (λhs id b o cap bZ hl hb=>.inr ⟨hs,id,o,cap,bZ,hl,hb⟩) oE _ hr
  ·intro j o ho;by_cases bK:o=.gone
   ·subst bK;trivial
   obtain⟨_,u3,_,o',bW,N3⟩:=nE j ⟨o,ho,bK⟩;have:o=o':=by
    have h1:aV[j]?=some o:=ho;rw[bW]at h1;simpa using h1.symm
   subst this;have aS:=h.c9 _ _ N3;have hb:=jC j u3;cases o with
   |gone=>trivial
   |var cells =>
    obtain⟨b,cap,cur,t,h1,h2,h3,h4⟩:=aS;exact⟨b,cap,cur,t,hb.trans h1,h2,by simpa using h3,λc v hv=>(h4 c (aG ρ v) (by simp only[bR,hv];rfl)).down eM oE v rfl⟩
   |mp ag L =>
    obtain⟨b,f,h1,h2,h3,h4⟩:=aS;refine⟨b,f,hb.trans h1,?_,λp hp=>h3 (p.1,aG ρ p.2) (xb (f:=λp:List Int×AV=>(p.1,aG ρ p.2)) hp),λj p hp=>(h4 j (p.1,aG ρ p.2) (by simp only[bR,hp];rfl)).down eM oE p.2 rfl⟩;rw[A2,cU]at h2;exact h2
   |arr sz rows =>
    obtain⟨h0,hr,aS⟩:=aS;refine⟨h0,λrow aM=>by simpa using hr (row.map (aG ρ)) (xb aM),?_⟩;rcases aS with⟨h1,h2⟩|⟨b,o,cap,cur,t,h1,h2,h3,h4,h5,h6⟩
    ·exact .inl ⟨hb.trans h1,by simpa using h2⟩
    ·refine .inr ⟨b,o,cap,cur,t,hb.trans h1,h2,h3,by simpa using h4,h5,λr c v hv=>(h6 r c (aG ρ v) ?_).down eM oE v rfl⟩;simp only[cellAt,bR]at hv ⊢;cases gR:rows[r]? with
     |none=>simp[gR]at hv
     |some row=>simp[gR]at hv ⊢;exact⟨v,hv,rfl⟩
  ·intro i j b o c o' c' hi hj dT dU;obtain⟨h1,h2,_⟩:=nE i hi;obtain⟨h3,h4,_⟩:=nE j hj;exact GU cm h2 h4 (h.inj _ _ b o c o' c' h1 h3 (jC i h2▸dT) (jC j h4▸dU))
  ·rintro b ⟨i,o,c,hi,hb⟩ hz;obtain⟨h1,h2,h3,_⟩:=nE i hi;rw[jC i h2]at hb;rcases hz with hz|⟨_,id,o',cap',bZ,hl,bq⟩
   ·exact h.nz b ⟨_,o,c,h1,hb⟩ hz
   ·have:=h.inj _ _ b o c o' cap' h1 hl hb bq;exact bZ (this▸h3)
  ·rintro b (hb|⟨_,id,o,cap,_,hl,hb⟩)
   ·exact h.eF b hb
   ·exact h.blt hl hb
 refine⟨γc,rfl,rfl,A1,λi hi=>jC i z8,eM,?_,?_⟩
 ·rintro b (hb|⟨_,id,o,cap,_,hl,hb⟩)
  ·exact .inl hb
  ·exact .inr ⟨id,o,cap,hl,hb⟩
 ·intro i hi;obtain⟨h1,h2,_,h4⟩:=nE i hi;exact⟨h1,h4⟩
def Ob.N4{ρ:Nat->Nat}{x o:Ob}(h:x.cA (bf ρ o)):x.cA o:=by
 cases x<;>cases o<;>simp[Ob.cA,bf]at h ⊢<;>exact h
def Fr.select{os:List Ob}{γ0 γ ak:Cx}{σ:St}(hf:Fr os γ0 σ.aa γ){ab:List Nat}{aV:List Ob}(hn:os.length<=ab.length)(dj:aV.length=ab.length)(bZ:∀ i,i<os.length->ab.getD i 0=i)(hw:ak.w=γ.w)(h:(∀ i,i<aV.length->ak.blk i=γ.blk (ab.getD i 0))/\(∀ b,γ.Z b->ak.Z b)/\(∀ b,ak.Z b->γ.Z b\/j4 σ.aa γ.blk b) /\
   ∀ i,Live aV i->Live σ.aa (ab.getD i 0)/\∃ o,aV[i]?=some o/\σ.aa[ab.getD i 0]?=some (bf (a9 σ.aa.length ab) o)):Fr os γ0 aV ak:=by
 obtain⟨h1,h2,h3,h4⟩:=h;refine⟨by rw[hw];exact hf.ij,by rw[hw];exact hf.tape,by rw[hw];exact hf.output,by rw[hw];exact hf.size,by rw[hw];exact hf.cg,λb hb=>h2 b (hf.z0 b hb),?_,?_,z8,?_⟩
 ·intro b hb;rcases h3 b hb with h|h
  ·exact hf.z1 b h
  ·rcases hf.own b h with h|h
   ·exact .inr (.inl h)
   ·exact .inr (.inr h)
 ·rintro b ⟨i,o,c,hi,hb⟩;have aZ:=hi.lt;rw[h1 i aZ]at hb;exact hf.own b ⟨_,o,c,(h4 i hi).1,hb⟩
 ·intro i hi hl;obtain⟨h5,o,ho,bW⟩:=h4 i hl;rw[bZ i hi]at h5 bW;obtain⟨h6,x,x',hx,bF,hk⟩:=hf.gf i hi h5;refine⟨by rw[h1 i hl.lt,bZ i hi];exact h6,x,o,hx,ho,?_⟩;rw[bW]at bF;simp only[cB.injEq]at bF;rw[<- bF]at hk;exact Ob.N4 hk
def dx(N:Nat)(os:List Ob)(γ0:Cx)(σ:St)(a:Act)(w:World):Prop :=
 a.defers=[]/\a.tmps.size=N/\∃ γ,γ.w=w/\γ.tmps=a.tmps/\aK σ γ/\Fr os γ0 σ.aa γ
def W(P:Program)(N n0:Nat)(c:Code)(Q:Exit->St->Prop)(σ:St):Prop :=
 ∀ (os:List Ob) (γ0:Cx) (a:Act) (w:World),os.length=n0->dx N os γ0 σ a w->c.wp P (λe a' w'=>∃ σ',Q e σ'/\dx N os γ0 σ' a' w') a w
def mC(P:Program)(g:FuncId)(args:List AV)(dst:Option Tmp)(K:St->Prop)(σ:St):Prop:=x8 P g args σ λv σ'=>K (σ'.put dst v)
def xK(P:Program)(t:TypeId)(m:String):Option (FuncId×Option TypeId) :=
 match P.info? t with
 |none=>none
 |some i =>
  match i.methods.find? (·.name==m) with
  |none=>none
  |some r =>
   match r.path.isEmpty,r.func,P.underlying t with
   |true,some (g,pr),some (.pointer e)=>some (g,if pr then none else some e)
   |_,_,_=>none
def jS(P:Program)(σ:St)(v:AV)(K:FuncId->AV->Prop):Option (FuncId×Option TypeId)->Prop
 |some (g,none)=>K g v
 |some (g,some e) =>
  (ty P e).kind≠99 /\
  match v with
  |.ptr id r c =>
   match rowOf σ id r with
   |some row=>h9 (ty P e) row c λx=>K g x
   |none=>False
  |_=>False
 |none=>False
def aI(P:Program)(o:Oper)(σ:St)(K:St->Prop):Prop :=
 match o.op with
 |.call { callee:=.value f,args,.. } =>
  match ev σ f with
  |.fn g bC=>mC P g (args.toList.map (ev σ)++bC) o.dst K σ
  |_=>False
 |.call { callee:=.invoke r m,args,.. } =>
  match ev σ r with
  |.dW t v=>jS P σ v (λg x=>mC P g (x::args.toList.map (ev σ)) o.dst K σ) (xK P t m)
  |_=>False
 |_=>bh P o σ K
def ju(P:Program)(o:Oper)(K:St->Prop)(b want:Bool)(σ:St):Prop:=(b=want->aI P o σ K)/\(b≠want->K (σ.put o.dst (.lit (.tuple #[]))))
def opsL(P:Program)(ops:Array Oper):List Oper->(St->Prop)->St->Prop
 |[],K,σ=>K σ
 |o::r,K,σ =>
  match o.guard with
  |none=>aI P o σ (opsL P ops r K)
  |some (j,want) =>
   match (ops[j]?).bind (·.dst) with
   |none=>False
   |some d =>
    match σ.env d with
    |.lit (.bool b)=>ju P o (opsL P ops r K) b want σ
    |.lit (.tuple vs)=>vs = #[]/\opsL P ops r K (σ.put o.dst (.lit (.tuple #[])))
    |_=>False
def k6(a:Act)(d:Option Tmp)(v:Value):(a.put d v).tmps.size=a.tmps.size:=by cases d<;>simp[Act.put]
def put_defers(a:Act)(d:Option Tmp)(v:Value):(a.put d v).defers=a.defers:=by cases d<;>rfl
def N5(xt:TypeId)(a:Addr)(x y:String):Builtin.ssaWrapNilChk_ #[xt] xt #[.pointer (some a),strVal x,strVal y]=pure (.pointer (some a)):=rfl
def G0{w:World}{t:TypeId}{i:TypeInfo}(h:P.info? t=some i):(typeInfo t).run P w=.ok i w:=by
 simp[typeInfo,h]
def ext1(x:Value)(A:Array Value):(#[x]++A).extract 1 (#[x]++A).size=A:=by
 apply Array.ext';simp only[Array.toList_extract,List.extract,w9,Array.size_append];simp[List.take_of_length_le]
def N6{σ:St}{γ:Cx}(hs:aK σ γ){t:TypeId}{m:String}{v:AV}{cv:Value}(hv:ah σ.aa γ.w γ.Z γ.blk v cv){K:FuncId->AV->Prop}(h:jS P σ v K (xK P t m)):
  ∃ g x cx,(Go.method (P.types.size+Made.depth) t cv m).run P γ.w=.ok (g,cx) γ.w/\ah σ.aa γ.w γ.Z γ.blk x cx/\K g x:=by
 obtain⟨fu,N7⟩:∃fu,P.types.size+Made.depth=fu+1:=Nat.exists_eq_succ_of_ne_zero (by unfold Made.depth;omega);rw[N7];unfold Go.method;unfold xK at h;cases hi:P.info? t with
 |none=>simp[hi,jS]at h
 |some i =>
  simp only[hi]at h;cases hf:i.methods.find? (·.name==m) with
  |none=>simp[hf,jS]at h
  |some r =>
   simp only[hf]at h;split at h
   ·rename_i g pr e hp hr hu;have yb:r.path = #[]:=Array.isEmpty_iff.1 hp;cases pr with
    |true =>
     simp only[if_pos,jS]at h;refine⟨g,v,cv,?_,hv,h⟩;simp[G0 hi,hf,yb,follow,hr,receiverAt,run_underlying hu,Place.get]
    |false =>
     simp only[if_neg,Bool.false_eq_true,not_false_eq_true,jS]at h;obtain⟨hk,h⟩:=h;cases v with
     |ptr id rr c =>
      simp only at h;cases aM:rowOf σ id rr with
      |none=>simp[aM]at h
      |some row =>
       simp only[aM]at h;obtain⟨x,cx,h1,h2,h3⟩:=A8 hs hk hv aM h;refine⟨g,x,cx,?_,h2,h3⟩;obtain⟨b,base,cap,cur,tt,o,rfl,_⟩:=yc hs hv aM;simp only[Instr.loadAt,Instr.sureAddr,Sem.run_bind,Sem.run_pure,Result.andThen_ok]at h1;simp[G0 hi,hf,yb,follow,hr,receiverAt,run_underlying hu,Place.get,N5,asAddr,h1]
     |_=>exact h.elim
   ·exact h.elim
def s6{N:Nat}{os:List Ob}{γ0:Cx}{o:Oper}{σ:St}{K:St->Prop}(h:aI P o σ K){a:Act}{w:World}(aT:dx N os γ0 σ a w)(hd:∀ d,o.dst=some d->d<N){Q:Exit->Act->World->Prop}{next:Act->World->Prop}(hn:∀ σ' a' w',K σ'->dx N os γ0 σ' a' w'->next a' w'):o.wp P a w next Q:=by
 obtain⟨dR,ay,γ,rfl,ha,hs,hf⟩:=aT;have kZ:∀ d,o.dst=some d->d<a.tmps.size:=λd h=>by rw[ay];exact hd d h
 have N8:bh P o σ K->o.wp P a γ.w next Q:=by
  intro h;obtain⟨n,x,w',σ',ak,hr,fK,hK,fq,dq,oH,eL⟩:=N9 h hs ha kZ;unfold Oper.wp;rw[hr];have cK:dx N os γ0 σ' (a.put o.dst x) w':=⟨by rw[put_defers];exact dR,by rw[k6];exact ay,ak,oH,eL,fq,hf.trans dq⟩;rcases fK with rfl|⟨rfl,rfl⟩
  ·exact hn _ _ _ hK cK
  ·exact hn _ _ _ hK cK
 unfold aI at h;split at h
 ·rename_i f args gM dI;split at h
  ·rename_i g bC he;have eu:=kv hs ha f;rw[he]at eu;obtain⟨aB,aD,iD,oC⟩:=eu.AF;have ig:∀ (j:Nat) d,(args.toList.map (ev σ)++bC)[j]?=some d->ah σ.aa γ.w γ.Z γ.blk d (((args.map a.eval)++aB).getD j Go.undef):=by
    intro j d hj;simp only[cT];rcases cZ j args.size with aZ|gN
    ·rw[bL (by simpa using aZ)]at hj;rw[uy (by simpa using aZ)];simp only[bR,sG,DU]at hj ⊢;cases hx:args[j]? with
     |none=>simp[hx]at hj
     |some y=>simp[hx]at hj ⊢;subst hj;exact kv hs ha y
    ·rw[dk (by simpa using gN)]at hj;rw[DV (by simpa using gN)];simp only[cU,Array.length_toList,Array.size_map]at hj ⊢;have:=oC _ d hj;simpa [cT] using this
   unfold mC at h;have dX:=GZ hs (argv:=(args.map a.eval)++aB) (by simp[iD]) ig h;obtain⟨ab,snap,cE,aV,res,bD,⟨⟨fn,hfn,jW,mz⟩,_⟩,_⟩:=h;unfold Oper.wp;have hr:(execOp a.eval o).run P γ.w=.ok (.enter g ((args.map a.eval)++aB)) γ.w:=by
    have kx : ¬ fn.name = "runtime.NumGoroutine" := by simpa using jW
    have iU:¬ fn.body=none:=by intro e;rw[e]at mz;simp at mz
    simp[execOp,dI,resolve,aD,Deferred.ofValue,invoke,callFunc,hfn,kx,iU]
   rw[hr];show Calls P g _ _ _;refine dX.mono ?_;rintro e w'⟨cv,v,σ',ak,rfl,rfl,eL,fq,dq,hv,hK,oD⟩;refine hn _ _ _ hK ⟨by rw[put_defers];exact dR,by rw[k6];exact ay,{ ak with tmps:=(a.put o.dst cv).tmps },rfl,rfl,ky fq (by rw[eL,ha]) kZ hv,?_⟩;rw[kz];exact(hf.trans dq).put _
  ·exact h.elim
 ·rename_i r m args gM dI;split at h
  ·rename_i t v he;have eu:=kv hs ha r;rw[he]at eu;obtain⟨yd,aD,oC⟩:=eu.G1;obtain⟨g,x,cx,hm,hx,h⟩:=N6 hs oC h;have ig:∀ (j:Nat) d,(x::args.toList.map (ev σ))[j]?=some d->ah σ.aa γ.w γ.Z γ.blk d ((#[cx]++args.map a.eval).getD j Go.undef):=by
    intro j d hj;simp only[cT];cases j with
    |zero =>
     simp only[nh,cB.injEq]at hj;subst hj;rw[uy Eb];simpa using hx
    |succ j =>
     simp only[sH,bR,sG]at hj;rw[DV Eb];simp only[List.size_toArray,b8,List.length_nil,Nat.zero_add,Nat.add_sub_cancel,DU];cases hy:args[j]? with
     |none=>simp[hy]at hj
     |some y=>simp[hy]at hj ⊢;subst hj;exact kv hs ha y
   unfold mC at h;have dX:=GZ hs (argv:=#[cx]++args.map a.eval) UU ig h;obtain⟨ab,snap,cE,aV,res,bD,⟨⟨fn,hfn,jW,mz⟩,_⟩,_⟩:=h;unfold Oper.wp;have hr:(execOp a.eval o).run P γ.w=.ok (.enter g (#[cx]++args.map a.eval)) γ.w:=by
    have kx : ¬ fn.name = "runtime.NumGoroutine" := by simpa using jW
    have iU:¬ fn.body=none:=by intro e;rw[e]at mz;simp at mz
    have e0:(#[Value.iface t yd]++args.map a.eval)[0]?=some (.iface t yd):=by rw[uy Eb];simp
    have e1:=ext1 (.iface t yd) (args.map a.eval);have e2:(callMethod (.iface t yd) m (args.map a.eval)).run P γ.w=.ok (.enter g (#[cx]++args.map a.eval)) γ.w:=by
     unfold callMethod;simp only[Sem.run_bind,run_program,Result.andThen_ok,hm];simp[callFunc,hfn,kx,iU]
    simp only[execOp,dI,resolve,aD,pure_bind,invoke,e0,e1];exact e2
   rw[hr];show Calls P g _ _ _;refine dX.mono ?_;rintro e w'⟨cv,v,σ',ak,rfl,rfl,eL,fq,dq,hv,hK,oD⟩;refine hn _ _ _ hK ⟨by rw[put_defers];exact dR,by rw[k6];exact ay,{ ak with tmps:=(a.put o.dst cv).tmps },rfl,rfl,ky fq (by rw[eL,ha]) kZ hv,?_⟩;rw[kz];exact(hf.trans dq).put _
  ·exact h.elim
 ·exact N8 h
def u6{N:Nat}{os:List Ob}{γ0:Cx}{ops:Array Oper}(hd:∀ o∈ops.toList,∀ d,o.dst=some d->d<N){K:St->Prop}{Q:Exit->Act->World->Prop}(hQ:∀ σ' a' w',K σ'->dx N os γ0 σ' a' w'->Q .normal a' w'):∀ (l:List Oper) (i:Nat) (σ:St) (a:Act) (w:World),ops.toList.drop i=l->opsL P ops l K σ->dx N os γ0 σ a w ->
   wpOps P ops Q (List.range' i l.length) a w
 |[],i,σ,a,w,_,h,aT=>by simpa [wpOps] using hQ _ _ _ h aT
 |o::r,i,σ,a,w,hl,h,aT=>by
  have hi:ops[i]?=some o:=by
   have:(ops.toList.drop i)[0]?=some o:=by rw[hl];rfl
   simpa using this
  have hr:ops.toList.drop (i+1)=r:=by
   have:=congrArg List.tail hl;simpa [List.tail_drop] using this
  have cO:o∈ops.toList:=eh (by simpa using hi);rw[b8,List.range'_succ,wpOps_cons];unfold wpOp;simp only[hi];unfold opsL at h;cases hg:o.guard with
  |none =>
   simp only[hg]at h;have hw:Region.wanted o (yielded ops a.tmps)=true:=by simp[Region.wanted,hg]
   rw[if_pos hw];left;exact s6 h aT (hd o cO) (λσ' a' w' hK cK=>u6 hd hQ r (i+1) σ' a' w' hr hK cK)
  |some jw =>
   obtain⟨j,want⟩:=jw;simp only[hg]at h;cases dy:(ops[j]?).bind (·.dst) with
   |none=>simp[dy]at h
   |some d =>
    simp only[dy]at h;split at h
    ·rename_i b he;obtain⟨dR,ay,γ,rfl,ha,hs,hf⟩:=aT;have eH:=hs.ax d;rw[he,ha]at eH;have hv:=eH.bw;have hy:yielded ops a.tmps j=some b:=by
      unfold yielded;rw[dy];have:a.tmps[d]?=some (.bool b):=by
       rw[cT]at hv;cases hx:a.tmps[d]? with
       |none=>rw[hx]at hv;simp[Go.undef]at hv
       |some y=>rw[hx]at hv;simp at hv;rw[hv]
      simp[this]
     by_cases ew:b=want
     ·have hw:Region.wanted o (yielded ops a.tmps)=true:=by simp[Region.wanted,hg,hy,ew]
      rw[if_pos hw];left;exact s6 (h.1 ew) ⟨dR,ay,γ,rfl,ha,hs,hf⟩ (hd o cO) (λσ' a' w' hK cK=>u6 hd hQ r (i+1) σ' a' w' hr hK cK)
     ·have hw:Region.wanted o (yielded ops a.tmps)=false:=by simp[Region.wanted,hg,hy,ew]
      rw[if_neg (by rw[hw];simp)];refine u6 hd hQ r (i+1) _ _ _ hr (h.2 ew) ⟨by rw[put_defers];exact dR,by rw[k6];exact ay,{ γ with tmps:=(a.put o.dst Go.undef).tmps },rfl,rfl,ky hs ha (λd h=>by rw[ay];exact hd o cO d h) (.lit _),?_⟩;rw[kz];exact hf.put _
    ·rename_i vs he;obtain⟨dR,ay,γ,rfl,ha,hs,hf⟩:=aT;have eH:=hs.ax d;rw[he,ha]at eH;have hv:=eH.bw;have hy:yielded ops a.tmps j=none:=by
      unfold yielded;rw[dy];rw[cT]at hv;cases hx:a.tmps[d]? with
      |none=>simp[hx]
      |some y=>rw[hx]at hv;simp at hv;subst hv;simp[hx]
     have hw:Region.wanted o (yielded ops a.tmps)=false:=by simp[Region.wanted,hg,hy]
     rw[if_neg (by rw[hw];simp)];refine u6 hd hQ r (i+1) _ _ _ hr h.2 ⟨by rw[put_defers];exact dR,by rw[k6];exact ay,{ γ with tmps:=(a.put o.dst Go.undef).tmps },rfl,rfl,ky hs ha (λd h=>by rw[ay];exact hd o cO d h) (.lit _),?_⟩;rw[kz];exact hf.put _
    ·exact h.elim
end Go.Am
namespace Go.Am
variable {P:Program} {N n0:Nat} {Q:Exit->St->Prop} {σ:St}
def G2{c:Code}{Q':Exit->St->Prop}(h:W P N n0 c Q σ)(hq:∀ e s,Q e s->Q' e s):W P N n0 c Q' σ :=
 λos γ0 a w hn aT=>wp_mono (h os γ0 a w hn aT) (λ_ _ _ ⟨σ',h1,h2⟩=>⟨σ',hq _ _ h1,h2⟩)
def M5(h:Q .normal σ):W P N n0 .skip Q σ:=λ_ _ _ _ _ aT=>wp_skip ⟨σ,h,aT⟩
def M8{l:Nat}(h:Q .normal σ):W P N n0 (.label l) Q σ:=λ_ _ _ _ _ aT=>wp_label ⟨σ,h,aT⟩
def M6{id:Nat}(h:Q (.exit id) σ):W P N n0 (.exit id) Q σ:=λ_ _ _ _ _ aT=>wp_exit ⟨σ,h,aT⟩
def M7(h:Q .ret σ):W P N n0 .ret Q σ:=λ_ _ _ _ _ aT=>wp_ret ⟨σ,h,aT⟩
def N'(P:Program)(N n0:Nat)(y:Code)(Q:Exit->St->Prop):Exit->St->Prop
 |.normal,s=>W P N n0 y Q s
 |e,s=>Q e s
def xM{x y:Code}(h:W P N n0 x (N' P N n0 y Q) σ):W P N n0 (.seq x y) Q σ:=by
 intro os γ0 a w hn aT;refine wp_seq (wp_mono (h os γ0 a w hn aT) ?_);rintro e a' w'⟨σ',h1,h2⟩;cases e with
 |normal=>exact h1 os γ0 a' w' hn h2
 |exit id=>exact⟨σ',h1,h2⟩
 |goto l=>exact⟨σ',h1,h2⟩
 |ret=>exact⟨σ',h1,h2⟩
 |panic c=>exact⟨σ',h1,h2⟩
 |outgrown=>exact⟨σ',h1,h2⟩
def M0{c:Operand}{x y:Code}{t:Bool}(hc:ev σ c=.lit (.bool t))(ht:t=true->W P N n0 x Q σ)(hf:t=false->W P N n0 y Q σ):W P N n0 (.cond c x y) Q σ:=by
 intro os γ0 a w hn aT;have aD:a.eval c=.bool t:=by
  obtain⟨_,_,γ,rfl,ha,hs,_⟩:=aT;have:=kv hs ha c;rw[hc]at this;exact this.bw
 exact wp_cond_split aD (λh=>ht h os γ0 a w hn aT) (λh=>hf h os γ0 a w hn aT)
def x4(id:Nat)(Q:Exit->St->Prop):Exit->St->Prop
 |.exit rp,s=>if rp=id then Q .normal s else Q (.exit rp) s
 |e,s=>Q e s
def NQ{id:Nat}{c:Code}(h:W P N n0 c (x4 id Q) σ):W P N n0 (.block id c) Q σ:=by
 intro os γ0 a w hn aT;refine wp_block (wp_mono (h os γ0 a w hn aT) ?_);rintro e a' w'⟨σ',h1,h2⟩;cases e with
 |exit rp =>
  simp only[x4]at h1;simp only[Exit.inBlock];split
  ·rename_i he;rw[if_pos he]at h1;exact⟨σ',h1,h2⟩
  ·rename_i he;rw[if_neg he]at h1;exact⟨σ',h1,h2⟩
 |normal=>exact⟨σ',h1,h2⟩
 |goto l=>exact⟨σ',h1,h2⟩
 |ret=>exact⟨σ',h1,h2⟩
 |panic c=>exact⟨σ',h1,h2⟩
 |outgrown=>exact⟨σ',h1,h2⟩
def dQ(N:Nat)(ops:Array Oper):Bool:=ops.toList.all λo=>match o.dst with|some d=>decide (d<N)|none=>true
def jt{ops:Array Oper}(h:dQ N ops=true):∀ o∈ops.toList,∀ d,o.dst=some d->d<N:=by
 intro o ho d hd;unfold dQ at h;rw[gx]at h;have:=h o ho;simp[hd]at this;exact this
def GO{id:Nat}{ops:Array Oper}(hd:dQ N ops=true)(h:opsL P ops ops.toList (Q .normal) σ):W P N n0 (.region id ops false) Q σ:=by
 intro os γ0 a w _ aT;refine wp_region ?_;have:=u6 (P:=P) (N:=N) (os:=os) (γ0:=γ0) (ops:=ops) (jt hd) (K:=Q .normal) (Q:=λe a' w'=>∃ σ',Q e σ'/\dx N os γ0 σ' a' w') (λσ' a' w' hK cK=>⟨σ',hK,cK⟩)
  ops.toList 0 σ a w rfl h aT
 rw[List.range_eq_range'];simpa using this
def dx.drawn{os:List Ob}{γ0:Cx}{a:Act}{w:World}(h:dx N os γ0 σ a w):dx N os γ0 σ a { w with drawn:=w.drawn+1 }:=by
 obtain⟨h1,h2,γ,rfl,h3,h4,h5⟩:=h;exact⟨h1,h2,{ γ with w:={ γ.w with drawn:=γ.w.drawn+1 } },rfl,h3,h4.A9 rfl,h5.A9 rfl rfl rfl rfl⟩
def aR(n0:Nat)(σ σ':St):Prop:=∀ (os:List Ob) (γ0 γ:Cx),os.length=n0->aK σ γ->Fr os γ0 σ.aa γ->∃ ak,ak.w=γ.w/\ak.tmps=γ.tmps/\aK σ' ak/\Fr os γ0 σ'.aa ak
def kB{c:Code}{σ':St}(h:aR n0 σ σ')(hw:W P N n0 c Q σ'):W P N n0 c Q σ:=by
 intro os γ0 a w hn aT;obtain⟨h1,h2,γ,rfl,h3,h4,h5⟩:=aT;obtain⟨ak,e1,e2,e3,e4⟩:=h os γ0 γ hn h4 h5;exact hw os γ0 a γ.w hn ⟨h1,h2,ak,e1,e2.trans h3,e3,e4⟩
def aR.forget{e:Nat->AV}(h:∀ k,e k=.undef\/e k=σ.env k):aR n0 σ ⟨e,σ.aa⟩:=by
 intro os γ0 γ _ hs hf;refine⟨γ,rfl,rfl,⟨λk=>?_,hs.c9,hs.inj,hs.nz,hs.eF,hs.gl⟩,hf⟩;rcases h k with h|h
 ·show ah _ _ _ _ (e k) _;rw[h];exact .undef _
 ·show ah _ _ _ _ (e k) _;rw[h];exact hs.ax k
def aR.select(ab:List Nat)(snap:Bool)(aV:List Ob)(e:Nat->AV)(cm:ab.Nodup)(dj:aV.length=ab.length)(mF:∀ (j:Nat) o,aV[j]?=some o->o=.gone\/σ.aa[ab.getD j 0]?=some (bf (a9 σ.aa.length ab) o))(gQ:∀ i∈ab,i<σ.aa.length)(hn:n0<=ab.length)(bZ:∀ i,i<n0->ab.getD i 0=i)(he:∀ k,e k=.undef\/bd σ (λid=>∃ j,j<ab.length/\ab.getD j 0=id/\aV[j]?≠some .gone) (a9 σ.aa.length ab) snap (e k) (σ.env k)):aR n0 σ ⟨e,aV⟩:=by
 intro os γ0 γ ye hs hf;obtain⟨ak,h1,h2,h3,h4⟩:=hs.select ab snap aV cm dj mF gQ e γ.tmps (λk=>(he k).imp id λh=>⟨_,h,hs.ax k⟩);exact⟨ak,h1,h2,h3,hf.select z8 dj (λi hi=>bZ i z8) h1 h4⟩
def aR.trans{σ1 σ2:St}(h:aR n0 σ σ1)(k:aR n0 σ1 σ2):aR n0 σ σ2:=by
 intro os γ0 γ ye hs hf;obtain⟨γ1,a1,a2,a3,a4⟩:=h os γ0 γ ye hs hf;obtain⟨Ba,b1,b2,b3,b4⟩:=k os γ0 γ1 ye a3 a4;exact⟨Ba,b1.trans a1,b2.trans a2,b3,b4⟩
def aR.nil(d sz:Nat)(h:σ.env d=.lit (.slice none 0 0))(h0:0<sz):aR n0 σ ⟨fc σ.env d (.ref σ.aa.length sz 0 0),σ.aa++[.arr sz []]⟩:=by
 intro os γ0 γ _ hs hf;have hp:=hs.q' h0;refine⟨{ γ with blk:=bE γ.blk σ.aa.length none },rfl,rfl,⟨λk=>?_,hp.c9,hp.inj,hp.nz,hp.eF,hp.gl⟩,hf.trans (Fr.q' _ _ _)⟩;simp only[fc];by_cases hk:k=d
 ·subst hk;rw[if_pos rfl];have:=hs.ax k;rw[h]at this;rw[this.bw];exact .gP _ _ (List.getElem?_concat_length ..) (by simp[bE])
 ·rw[if_neg hk];exact hp.ax k
def gL(σ:St)(P:Program):List ResultVar->(List AV->Prop)->Prop
 |[],K=>K []
 |.tmp t::r,K=>gL σ P r λvs=>K (σ.env t::vs)
 |.cell a t::r,K =>
  (ty P t).kind≠99 /\
  match σ.env a with
  |.ptr id rr c =>
   match rowOf σ id rr with
   |some row=>h9 (ty P t) row c λv=>gL σ P r λvs=>K (v::vs)
   |none=>False
  |_=>False
def ic:List AV->AV
 |[v]=>v
 |vs=>.bA vs
def xG{γ:Cx}(hs:aK σ γ):∀ (rs:List ResultVar) (K:List AV->Prop),gL σ P rs K ->
  ∃ vs aB,K vs/\(rs.mapM λ(r:ResultVar)=>match r with|.tmp t=>(pure (γ.tmps.getD t Go.undef):Sem Value)|.cell a t=>do loadVar t (← asAddr (γ.tmps.getD a Go.undef))).run P γ.w=.ok aB γ.w /\
   aB.length=vs.length/\vs.length=rs.length/\∀ (j:Nat) v,vs[j]?=some v->ah σ.aa γ.w γ.Z γ.blk v (aB.getD j Go.undef)
 |[],K,h=>⟨[],[],h,Eb,rfl,rfl,Eb⟩
 |.tmp t::r,K,h=>by
  obtain⟨vs,aB,h1,h2,h3,h4,h5⟩:=xG hs r _ h;refine⟨_,γ.tmps.getD t Go.undef::aB,h1,?_,by simp[h3],by simp[h4],?_⟩
  ·simp only[List.mapM_cons,Sem.run_bind,Sem.run_pure,Result.andThen_ok,h2]
  ·intro j v hj;cases j with
   |zero=>simp at hj;subst hj;simpa using hs.ax t
   |succ j=>simpa using h5 j v (by simpa using hj)
 |.cell a t::r,K,h=>by
  obtain⟨hk,h⟩:=h;split at h
  ·rename_i id rr c he;have hv:=hs.ax a;rw[he]at hv;split at h
   ·rename_i row aM;obtain⟨v,cv,l1,l2,l3⟩:=A8 hs hk hv aM h;obtain⟨vs,aB,h1,h2,h3,h4,h5⟩:=xG hs r _ l3;obtain⟨b,base,cap,cur,tt,o,hp,_⟩:=yc hs hv aM;have cN:(do loadVar t (← asAddr (γ.tmps.getD a Go.undef)):Sem Value).run P γ.w=.ok cv γ.w:=by
     rw[hp]at l1 ⊢;simp only[Instr.loadAt,Instr.sureAddr,Sem.run_bind,Sem.run_pure,Result.andThen_ok]at l1;simp only[asAddr,Sem.run_bind,Sem.run_pure,Result.andThen_ok];exact l1
    refine⟨_,cv::aB,h1,?_,by simp[h3],by simp[h4],?_⟩
    ·simp only[List.mapM_cons];rw[Sem.run_bind,cN];simp only[Result.andThen_ok,Sem.run_bind,h2,Sem.run_pure]
    ·intro j x hj;cases j with
     |zero=>simp at hj;subst hj;simpa using l2
     |succ j=>simpa using h5 j x (by simpa using hj)
   ·exact h.elim
  ·exact h.elim
def jV(n0:Nat)(σ:St)(v res:AV)(aL:List Ob):Prop :=
 ∃ (ab:List Nat) (snap:Bool),ab.Nodup/\aL.length=ab.length/\(∀ (j:Nat) o,aL[j]?=some o->o=.gone\/σ.aa[ab.getD j 0]?=some (bf (a9 σ.aa.length ab) o))/\(∀ i∈ab,i<σ.aa.length) /\
  n0<=ab.length/\(∀ i,i<n0->ab.getD i 0=i)/\bd σ (λid=>∃ j,j<ab.length/\ab.getD j 0=id/\aL[j]?≠some .gone) (a9 σ.aa.length ab) snap res v
def tp(P:Program)(n0:Nat)(rs:List ResultVar)(res:AV)(aL:List Ob):Exit->St->Prop
 |.normal,s=>gL s P rs λvs=>jV n0 s (ic vs) res aL
 |.ret,s=>gL s P rs λvs=>jV n0 s (ic vs) res aL
 |_,_=>False
def ao.Ay {f : FuncId} {fn : Func} {c : Code} {args : List AV} {aa : List Ob} {res : AV} {aL : List Ob} (hf : P.funcs[f]? = some fn) (hb : fn.body = some c) (jW : (fn.name == "runtime.NumGoroutine") = false)
  (hN:args.length<=fn.ntmps) (h:W P fn.ntmps aa.length c (tp P aa.length fn.results.toList res aL) ⟨λk=>args.getD k .undef,aa⟩):ao P f args aa res aL:=by
 refine⟨⟨fn,hf,jW,by rw[hb];rfl⟩,?_⟩;intro γ ay hs;refine calls_of_wp hf hb ?_
 let tm:=γ.tmps++Array.replicate (fn.ntmps-γ.tmps.size) Go.undef
 have aT:dx fn.ntmps aa γ ⟨λk=>args.getD k .undef,aa⟩ { tmps:=tm,defers:=[] } γ.w:=by
  refine⟨rfl,by simp[tm];omega,{ γ with tmps:=tm },rfl,rfl,⟨λk=>?_,hs.c9,hs.inj,hs.nz,hs.eF,hs.gl⟩,(Fr.refl _ _).put _⟩;rcases cZ k args.length with hk|hk
  ·have:=hs.ax k;have e:tm.getD k Go.undef=γ.tmps.getD k Go.undef:=by
    simp only[tm,cT];rw[uy z8]
   show ah _ _ _ _ _ (tm.getD k Go.undef);rw[e];exact this
  ·have e:args.getD k AV.undef=.undef:=by simp[hk]
   show ah _ _ _ _ (args.getD k .undef) _;rw[e];exact .undef _
 refine wp_mono (h aa γ _ γ.w rfl aT) ?_;rintro e a' w'⟨σ',h1,dR,_,ak,rfl,ha,fq,dq⟩;have fin:∀ (K:List AV->Prop),gL σ' P fn.results.toList K->(∀ vs,K vs->jV aa.length σ' (ic vs) res aL) ->
   a'.defers=[]/\∃ v,(results fn a'.tmps).run P ak.w=.ok v ak.w/\∃ cv eK,Ending.returned v=.returned cv/\eK.w=ak.w/\eK.tmps = #[cv]/\aK ⟨λk=>[res].getD k .undef,aL⟩ eK/\Fr aa γ aL eK:=by
  intro K hK Az;obtain⟨vs,aB,k1,k2,k3,k4,k5⟩:=xG fq _ _ hK;obtain⟨ab,snap,r1,r2,r3,r4,r5,r6,r7⟩:=Az vs k1;refine⟨dR,?_⟩;have cN :∃v,(results fn a'.tmps).run P ak.w=.ok v ak.w/\ah σ'.aa ak.w ak.Z ak.blk (ic vs) v:=by
   have hm:(fn.results.mapM λ(r:ResultVar)=>match r with|.tmp t=>(pure (a'.tmps.getD t Go.undef):Sem Value)|.cell a t=>do loadVar t (← asAddr (a'.tmps.getD a Go.undef))).run P ak.w=.ok aB.toArray ak.w:=by
    rw[Array.mapM_eq_mapM_toList,Sem.run_map,<- ha,k2];rfl
   have hr:(results fn a'.tmps).run P ak.w=.ok (if h:aB.toArray.size=1 then aB.toArray[0] else .tuple aB.toArray) ak.w:=by
    unfold results;rw[Sem.run_bind];exact congrArg (λr=>Result.andThen r λ(a:Array Value) w'=>(pure (if h:a.size=1 then a[0] else Value.tuple a):Sem Value).run P w') hm
   rw[hr]
   match vs,aB,k3,k5 with
   |[],[],_,k5=>exact⟨_,rfl,.bA _ _ rfl (λj x hj=>by simp at hj)⟩
   |[v],[cv],_,k5=>exact⟨cv,Eb,by simpa [ic] using k5 0 v rfl⟩
   |v::v'::vs,cv::jX::aB,k3,k5 =>
    refine⟨.tuple (cv::jX::aB).toArray,Eb,.bA _ _ (by simpa using k3) (λj x hj=>?_)⟩;have:=k5 j x hj;simpa [an,cT] using this
  obtain⟨v,AB,AD⟩:=cN;obtain⟨eK,e1,e2,e3,e4⟩:=fq.select ab snap aL r1 r2 r3 r4 (λk=>[res].getD k .undef) #[v] (λk=>by
   cases k with
   |zero=>exact .inr ⟨_,r7,by simpa using AD⟩
   |succ k=>left;simp)
  exact⟨v,AB,v,eK,rfl,e1,e2,e3,dq.select r5 r2 r6 e1 e4⟩
 cases e with
 |normal=>exact fin _ h1 (λ_ h=>h)
 |ret=>exact fin _ h1 (λ_ h=>h)
 |exit id=>exact h1.elim
 |goto l=>exact h1.elim
 |panic c=>exact h1.elim
 |outgrown=>exact h1.elim
theorem ao.aX {f:FuncId} {fn:Func} {c:Code} {args:List AV} {aa:List Ob} {res:AV} {aL:List Ob} (N k:Nat) (rs:List ResultVar) (hf:P.funcs[f]?=some fn) (h:W P N k c (tp P k rs res aL) ⟨fun k=>args.getD k .undef,aa⟩) (hb:fn.body=some c:=by rfl) (jW:(fn.name=="runtime.NumGoroutine")=false:=by rfl) (hN:fn.ntmps=N:=by rfl) (kY:fn.results.toList=rs:=by rfl) (hk:aa.length=k:=by rfl) (hl:args.length<=N:=by simp):ao P f args aa res aL:=by
 subst hN;subst kY;subst hk;exact ao.Ay hf hb jW hl h
def MY{x y:Code}(h:∀ Q':Exit->St->Prop,(∀ s,W P N n0 y Q s->Q' .normal s)->(∀ e s,e≠.normal->Q e s->Q' e s)->W P N n0 x Q' σ):W P N n0 (.seq x y) Q σ :=
 xM (h _ (λ_ h=>h) (λe s he hq=>by cases e<;>first|exact absurd rfl he|exact hq))
def E4{id:Nat}{ops:Array Oper}{y:Code}(hd:dQ N ops=true)(h:∀ K:St->Prop,(∀ s,W P N n0 y Q s->K s)->opsL P ops ops.toList K σ):W P N n0 (.seq (.region id ops false) y) Q σ :=
 xM (GO hd (h _ (λ_ h=>h)))
def F9{ops:Array Oper}{K:St->Prop}:opsL P ops [] K σ=K σ:=rfl
def F'{ops:Array Oper}{o:Oper}{r:List Oper}{K:St->Prop}:opsL P ops (o::r) K σ =
  match o.guard with
  |none=>aI P o σ (opsL P ops r K)
  |some (j,want) =>
   match (ops[j]?).bind (·.dst) with
   |none=>False
   |some d =>
    match σ.env d with
    |.lit (.bool b)=>ju P o (opsL P ops r K) b want σ
    |.lit (.tuple vs)=>vs = #[]/\opsL P ops r K (σ.put o.dst (.lit (.tuple #[])))
    |_=>False:=rfl
def xQ{o:Oper}{K:St->Prop}:ju P o K true true σ=aI P o σ K:=by simp[ju]
def Gd{o:Oper}{K:St->Prop}:ju P o K false false σ=aI P o σ K:=by simp[ju]
def Gb{o:Oper}{K:St->Prop}:ju P o K true false σ=K (σ.put o.dst (.lit (.tuple #[]))):=by simp[ju]
def Gc{o:Oper}{K:St->Prop}:ju P o K false true σ=K (σ.put o.dst (.lit (.tuple #[]))):=by simp[ju]
def M3{o:Oper}{K:St->Prop}{b want:Bool}(h1:b=true->ju P o K true want σ)(h2:b=false->ju P o K false want σ):ju P o K b want σ:=by
 cases b
 ·exact h2 rfl
 ·exact h1 rfl
def Oa(ds:List Nat)(e:Nat->AV):Nat->AV:=λk=>if ds.contains k then .undef else e k
def xP{ds:List Nat}{e:Nat->AV}{k:Nat}:Oa ds e k=if ds.contains k then .undef else e k:=rfl
mutual
def gK:AV->Bool
 |.ref ..=>false
 |.ptr ..=>false
 |.agg cs=>iT cs
 |.bA cs=>iT cs
 |.fn _ cs=>iT cs
 |.dW _ v=>gK v
 |.cJ _=>false
 |_=>true
def iT:List AV->Bool
 |[]=>true
 |v::vs=>gK v&&iT vs
end
mutual
def te(ρ:Nat->Nat):∀ (v:AV),gK v=true->aG ρ v=v
 |.undef,_=>rfl
 |.lit _,_=>rfl
 |.tree ..,_=>rfl
 |.bO _,_=>rfl
 |.ref ..,h=>by simp[gK]at h
 |.ptr ..,h=>by simp[gK]at h
 |.agg cs,h=>by simp only[gK]at h;simp only[aG];rw[uW ρ cs h]
 |.bA cs,h=>by simp only[gK]at h;simp only[aG];rw[uW ρ cs h]
 |.fn f cs,h=>by simp only[gK]at h;simp only[aG];rw[uW ρ cs h]
 |.dW t v,h=>by simp only[gK]at h;simp only[aG];rw[te ρ v h]
 |.cJ _,h=>by simp[gK]at h
def uW(ρ:Nat->Nat):∀ (l:List AV),iT l=true->jQ ρ l=l
 |[],_=>rfl
 |v::vs,h=>by
  simp only[iT,bb]at h;simp only[jQ];rw[te ρ v h.1,uW ρ vs h.2]
end
def Od{l:List AV}(h:iT l=true){j:Nat}{x:AV}(hx:l[j]?=some x):gK x=true:=by
 induction l generalizing j with
 |nil=>simp at hx
 |cons v l ih =>
  simp only[iT,bb]at h;cases j with
  |zero=>simp at hx;subst hx;exact h.1
  |succ j=>exact ih h.2 (by simpa using hx)
def ba{f:FuncId}{args:List AV}{dst:Option Tmp}{K:St->Prop}{res:AV}(h:ao P f args [] res [])(ha:iT args=true)(hr:gK res=true)(hK:K (σ.put dst res)):mC P f args dst K σ:=by
 refine⟨[],false,args,[],res,[],h,⟨List.nodup_nil,rfl,Eb,rfl,?_,Eb⟩,?_⟩
 ·intro j c d hc hd;rw[hc]at hd;simp at hd;subst hd;have:=bd.same (σ:=σ) (kp:=(·∈([]:List Nat))) (ρ:=a9 σ.aa.length []) (snap:=false) c;rw[te _ c (Od ha hc)]at this;exact this
 ·rw[te _ _ hr];simpa [dv] using hK
def mq{v:AV}(hr:gK v=true):jV 0 σ v v []:=by
 refine⟨[],false,List.nodup_nil,rfl,Eb,Eb,aH _,Eb,?_⟩;have:=bd.same (σ:=σ) (kp:=λid=>∃ j,j<([]:List Nat).length/\([]:List Nat).getD j 0=id/\([]:List Ob)[j]?≠some .gone) (ρ:=a9 σ.aa.length []) (snap:=false) v;rw[te _ _ hr]at this;exact this
end Go.Am
namespace Go.Am
variable {P:Program}
def cls:Op->Nat
 |.move _|.assign _|.pick ..|.convert ..|.binOp ..|.unOp ..|.makeFunc ..|.makeInterface ..|.typeAssert ..|.field ..|.extract ..|.build ..|.index ..=>0
 |.call { callee:=.builtin .min,.. }|.call { callee:=.builtin .max,.. }=>0
 |.nilCheck _|.fieldAddr ..|.indexAddr ..|.slice ..=>1
 |.call { callee:=.builtin .len,.. }=>1
 |.load ..|.lookup ..=>2
 |.alloc _|.box ..|.makeSlice ..|.buildSlice ..|.makeMap ..=>3
 |.store ..=>4
 |_=>5
def mE:Ob->Ob->Prop
 |.var _,.var _=>True
 |.arr s _,.arr s' _=>s=s'
 |.mp a L,.mp b M=>a=b/\L=M
 |.gone,.gone=>True
 |_,_=>False
def tc(o:Ob):mE o o:=by cases o<;>simp[mE]
def gA(c:Nat)(a b:List Ob):Prop :=
 if c<=2 then b=a
 else if c=3 then ∀ (id:Nat),id<a.length->b[id]?=a[id]?
 else if c=4 then b.length=a.length/\∀ (id:Nat) o o',a[id]?=some o->b[id]?=some o'->mE o o'
 else True
def Oe(c:Nat)(h:c<=2)(a:List Ob):gA c a a:=by simp[gA,h]
def yf(a:List Ob)(o:Ob):gA 3 a (a++[o]):=by
 simp only[gA];intro id h;exact bL h
def Of(σ:St)(id r:Nat)(row:List AV):gA 4 σ.aa (jq σ id r row).aa:=by
 simp only[gA];rw[if_neg US,if_neg US,if_pos trivial];have key:∀ (x y:Ob),σ.aa[id]?=some x->mE x y->(σ.aa.set id y).length=σ.aa.length/\∀ (i:Nat) o o',σ.aa[i]?=some o->(σ.aa.set id y)[i]?=some o'->mE o o':=by
  intro x y hx gT;refine⟨Eb,λi o o' ho bW=>?_⟩;rw[List.getElem?_set]at bW;split at bW
  ·rename_i e;subst e;split at bW
   ·simp at bW;subst bW;rw[hx]at ho;simp at ho;subst ho;exact gT
   ·simp at bW
  ·rw[ho]at bW;simp at bW;subst bW;exact tc o
 unfold jq;split
 ·rename_i cells h;exact key _ _ h trivial
 ·rename_i sz rows h;exact key _ _ h rfl
 ·exact⟨rfl,λi o o' ho bW=>by rw[ho]at bW;simp at bW;subst bW;exact tc o⟩
def tq:AV->Option Nat
 |.ref id _ _ _=>some id
 |.ptr id _ _=>some id
 |.cJ id=>some id
 |_=>none
def iV(c:Nat)(a b:Option Ob):Prop :=
 if c=0 then True else if c=1 then ∀ o,a=some o->∃ o',b=some o'/\mE o o' else ∀ o,a=some o->b=some o
def kD(c:Nat)(l:List Operand)(σ:St)(e2:Nat->AV)(ob:List Ob):Prop :=
 (∀ x∈l,ev ⟨e2,ob⟩ x=ev σ x)/\(∀ x∈l,∀ id,tq (ev σ x)=some id->iV c σ.aa[id]? ob[id]?)
def Bb(P:Program)(o:Oper)(σ:St)(K:St->Prop)(c:Nat)(l:List Operand):Prop :=
 ∃ v os,gA c σ.aa os/\K ((⟨σ.env,os⟩:St).put o.dst v)/\∀ e2 ob bH (K2:St->Prop),kD c l σ e2 ob->(if c<=2 then bH=ob else ob=σ.aa/\bH=os)->K2 ((⟨e2,bH⟩:St).put o.dst v)->bh P o ⟨e2,ob⟩ K2
theorem dA{o:Oper}{σ:St}{K:St->Prop}{c:Nat}{l:List Operand}{v:AV}(hW:K (σ.put o.dst v))(h:∀ e2 ob (K2:St->Prop),kD c l σ e2 ob->K2 ((⟨e2,ob⟩:St).put o.dst v)->bh P o ⟨e2,ob⟩ K2)(hc:c<=2:=by simp[cls]):Bb P o σ K c l :=
 ⟨v,σ.aa,Oe _ hc _,hW,fun e2 ob bH K2 hx ho db=>h e2 ob K2 hx (by rw[if_pos hc]at ho;subst ho;exact db)⟩
def dB{o:Oper}{σ:St}{K:St->Prop}{c:Nat}{l:List Operand}{v:AV}{os:List Ob}(hc:3<=c)(he:gA c σ.aa os)(hW:K ((⟨σ.env,os⟩:St).put o.dst v))(h:∀ e2 (_:List Ob) (K2:St->Prop),kD 0 l σ e2 σ.aa->K2 ((⟨e2,os⟩:St).put o.dst v)->bh P o ⟨e2,σ.aa⟩ K2):Bb P o σ K c l :=
 ⟨v,os,he,hW,λe2 ob bH K2 hx ho db=>by rw[if_neg z8]at ho;obtain⟨rfl,rfl⟩:=ho;exact h e2 σ.aa K2 ⟨hx.1,λ_ _ _ _=>by simp[iV]⟩ db⟩
def parts_eq{parts:Array (Nat×Operand)}{σ τ:St}(h:∀ x∈parts.toList.map (·.2),ev τ x=ev σ x):
  (parts.toList.map λp=>(p.1,ev τ p.2))=(parts.toList.map λp=>(p.1,ev σ p.2))/\(parts.toList.all λp=>(cellsOf (ev τ p.2)).all bt)=(parts.toList.all λp=>(cellsOf (ev σ p.2)).all bt):=by
 have hp:(parts.toList.map λp=>(p.1,ev τ p.2))=(parts.toList.map λp=>(p.1,ev σ p.2)):=oo λp hp=>by rw[h _ (xb hp)]
 exact⟨hp,by simpa [List.all_map,Function.comp_def] using congrArg (·.all λq=>(cellsOf q.2).all bt) hp⟩
def GA{t:Ty}{cells:List AV}{c:Nat}{K:AV->Prop}(h:h9 t cells c K):∃v,K v/\∀ K2:AV->Prop,K2 v->h9 t cells c K2:=by
 unfold h9 at h ⊢;split at h
 ·exact⟨_,h.2,λK2 hK=>by simp_all⟩
 ·split at h<;>first|exact h.elim|exact⟨_,h,λK2 hK=>by simp_all⟩
def Og{k:IntKind}{p q:Int}{K:Value->Prop}(h:nG k p q K):∃v,K v/\∀ K2:Value->Prop,K2 v->nG k p q K2:=by
 by_cases hk:k=.u64
 ·rw[nG,if_pos hk]at h;exact⟨_,h,λK2 h2=>by rw[nG,if_pos hk];exact h2⟩
 ·rw[nG,if_neg hk]at h;exact⟨_,h.2,λK2 h2=>by rw[nG,if_neg hk];exact⟨h.1,h2⟩⟩
def Oh{k:IntKind}{p:Int}{K:Value->Prop}(h:mD k p K):∃v,K v/\∀ K2:Value->Prop,K2 v->mD k p K2:=by
 by_cases hk:k=.u64
 ·rw[mD,if_pos hk]at h;exact⟨_,h,λK2 h2=>by rw[mD,if_pos hk];exact h2⟩
 ·rw[mD,if_neg hk]at h;exact⟨_,h.2,λK2 h2=>by rw[mD,if_neg hk];exact⟨h.1,h2⟩⟩
def Oi{op:BinOp}{k:IntKind}{p q:Int}{K:Value->Prop}(h:dG op k p q K):∃v,K v/\∀ K2:Value->Prop,K2 v->dG op k p q K2:=by
 unfold dG at h ⊢;split at h<;>first|exact Og h|exact⟨_,h.2,λK2 h'=>⟨h.1,h'⟩⟩|exact⟨_,h,λK2 h=>h⟩|exact h.elim
def Oj{σ:St}{e:Nat->AV}{ob:List Ob}{id r:Nat}{row:List AV}(h:∀ o,σ.aa[id]?=some o->ob[id]?=some o)(hr:rowOf σ id r=some row):rowOf ⟨e,ob⟩ id r=some row:=by
 unfold rowOf at hr ⊢;cases ho:σ.aa[id]?<;>simp_all
def Ok{σ:St}{e:Nat->AV}{ob:List Ob}{v:AV}{q:Nat×Nat×List (List Int×AV)}(h:∀ id,v=.cJ id->∀ o,σ.aa[id]?=some o->ob[id]?=some o)(hm:gJ σ v=some q):gJ ⟨e,ob⟩ v=some q:=by
 unfold gJ at hm ⊢;split at hm
 ·rename_i id;split at hm
  ·rename_i ag L ho;have:=h id rfl _ ho;simp only[this];exact hm
  ·cases hm
 ·cases hm
def G3{o:Oper}{σ:St}{K:St->Prop}(hW:bh P o σ K):Bb P o σ K (cls o.op) o.op.operands.toList:=by
 obtain⟨dst,op,type,pos,after,guard⟩:=o;unfold bh at hW;cases op
 case call c =>
  obtain⟨callee,args,argTypes⟩:=c;cases callee<;>try exact hW.elim
  rename_i b;cases b<;>try exact hW.elim
  all_goals simp only at hW
  case append =>
   (repeat' split at hW)<;>try exact hW.elim
   rename_i s x t t' bF eL _ _ _ _ z pre σ1 sz src hk hz u7 mG;have oD:σ1=⟨σ.env,σ1.aa⟩/\∀ e,kW ⟨e,σ.aa⟩ (ty P (ty P t).elem).size (ev σ s)=some (pre,⟨e,σ1.aa⟩):=by
    unfold kW at u7 ⊢;(repeat' split at u7)<;>simp_all
    all_goals obtain⟨rfl,rfl⟩:=u7;simp
   refine dB (os:=σ1.aa++[.arr sz (pre++src)]) (by simp[cls]) trivial (by have:=hW.2;rw[oD.1]at this;exact this) λe2 ob K2 hx db=>?_;have oI:jr ⟨e2,σ.aa⟩ (ev σ x)=some (sz,src):=mG;unfold bh;simp[kD,Op.operands,Call.operands,bF]at hx;simp only[bF,eL,hx.1.1,hx.1.2,hk,hz,oD.2,oI];exact⟨hW.1,db⟩
  case copy =>
   (repeat' split at hW)<;>try exact hW.elim
   rename_i bF eL _ _ id _ _ _ _ src he mG _ _ _ ho;refine dB (by simp[cls]) trivial hW.2 λe2 ob K2 hx db=>?_;have oI:jr ⟨e2,σ.aa⟩ _=_:=mG;unfold bh;simp[kD,Op.operands,Call.operands,bF]at hx;simp only[bF,eL,hx.1.1,hx.1.2,he,oI,ho];exact⟨hW.1,db⟩
  case clear =>
   (repeat' split at hW)<;>try exact hW.elim
   rename_i bF eL _ _ id _ _ _ _ he hz _ _ _ ho;refine dB (by simp[cls]) trivial hW.2 λe2 ob K2 hx db=>?_;unfold bh;simp[kD,Op.operands,Call.operands,bF]at hx;simp only[bF,eL,hx,he,hz,ho];exact⟨hW.1,db⟩
  all_goals(repeat' split at hW)<;>first|exact hW.elim|exact hW.2.elim|refine dA hW ?_|refine dA hW.2 ?_|refine dA hW.2.2 ?_
  all_goals
   intro e2 ob K2 hx db;unfold bh;simp[kD,Op.operands,Call.operands,tq,iV,cls, *]at hx ⊢;first|done|(simp_all;done)|(obtain⟨_,o',_,hk⟩:=hx;cases o'<;>simp_all [mE];done)
 case load t x =>
  simp only at hW;obtain⟨hk,hW⟩:=hW;(repeat' split at hW)<;>try exact hW.elim
  all_goals
   obtain⟨v,hK,hl⟩:=GA hW;refine dA hK λe2 ob K2 hx db=>?_;unfold bh;simp[kD,Op.operands,tq,iV,cls, *]at hx;first|simp only[hx.1,Oj hx.2 ‹rowOf _ _ _=_›]|simp only[hx]
   exact⟨hk,hl _ db⟩
 case store t x y =>
  simp only at hW;obtain⟨hk,hW⟩:=hW;(repeat' split at hW)<;>try exact hW.elim
  rename_i id r c he _ row aM;have oD:∀ row,jq σ id r row=⟨σ.env,(jq σ id r row).aa⟩/\∀ e,jq ⟨e,σ.aa⟩ id r row=⟨e,(jq σ id r row).aa⟩:=by
   intro row;unfold jq;simp only;split<;>simp_all
  refine dB (by simp[cls]) (Of _ _ _ _) (by have:=hW.2;rw[(oD _).1]at this;exact this) λe2 ob K2 hx db=>?_;have kE:rowOf ⟨e2,σ.aa⟩ id r=some row:=aM;unfold bh;simp only[hx.1 x (by simp[Op.operands]),hx.1 y (by simp[Op.operands]),he,kE];rw[(oD _).2];exact⟨hk,hW.1,db⟩
 case build t parts =>
  simp only at hW;(repeat' split at hW)<;>first|exact hW.elim|refine dA hW.2 ?_
  all_goals
   intro e2 ob K2 hx db;obtain⟨h1,h2⟩:=parts_eq (parts:=parts) (by simpa [Op.operands] using hx.1);unfold bh;simp only[h1,h2, *];simp[hW.1]
 case buildSlice t _ parts =>
  simp only at hW;(repeat' split at hW)<;>first|exact hW.elim|refine dB (aH 3) (yf _ _) hW.2 ?_
  intro e2 ob K2 hx db;obtain⟨h1,h2⟩:=parts_eq (parts:=parts) (by simpa [Op.operands] using hx.1);unfold bh;simp only[h1,h2, *];simp[hW.1]
 case makeFunc fn first captured =>
  simp only at hW;split at hW<;>first|exact hW.elim|refine dA hW.2 λe2 ob K2 hx db=>?_
  unfold bh;simp only[oo (l:=captured.toList) (f:=ev ⟨e2,ob⟩) (g:=ev σ) λy hy=>hx.1 y (by simp only[Op.operands,w9,List.mem_append];exact .inr hy)];exact⟨hW.1,db⟩
 case unOp op t x =>
  simp only at hW;split at hW
  ·rename_i b he;refine dA hW λe2 ob K2 hx db=>?_;unfold bh;simp[kD,Op.operands]at hx;simp only[hx.1,he];exact db
  ·rename_i k p he;obtain⟨v,hK,hl⟩:=Oh hW;refine dA hK λe2 ob K2 hx db=>?_;unfold bh;simp[kD,Op.operands]at hx;simp only[hx.1,he];exact hl _ db
  ·exact hW.elim
 case binOp op t x y yt =>
  simp only at hW;split at hW
  ·rename_i k p k' q he hf;obtain⟨hk,hW⟩:=hW;obtain⟨v,hK,hl⟩:=Oi hW;refine dA hK λe2 ob K2 hx db=>?_;unfold bh;simp[kD,Op.operands,he,hf]at hx;simp only[hx.1.1,hx.1.2];exact⟨hk,hl _ db⟩
  all_goals(repeat' split at hW)<;>first|exact hW.elim|exact hW.2.elim|refine dA hW.2 ?_
  all_goals
   intro e2 ob K2 hx db;unfold bh;simp[kD,Op.operands, *]at hx ⊢;first|done|(simp_all;done)
 case slice t x lo hi mx =>
  simp only at hW;obtain⟨hk,bU,rfl,hW⟩:=hW;cases lo<;>cases hi<;>simp only[fV,Option.map_none]at hW;all_goals(repeat' split at hW)<;>first|exact hW.elim|exact hW.2.elim|exact hW.2.2.elim|refine dA hW.2 ?_|refine dA hW.2.2 ?_|refine dA hW.2.2.2 ?_
  all_goals
   intro e2 ob K2 hx db;unfold bh;simp only[cB.injEq]at *;simp[kD,Op.operands,tq,iV,cls, *]at hx ⊢;first|done|(simp_all;done)|(obtain⟨_,o',_,hk⟩:=hx;cases o'<;>simp_all [mE];done)|(obtain⟨_,⟨o',_,hk⟩,_⟩:=hx;cases o'<;>simp_all [mE];done)|trace_state
 case makeMap t r =>
  simp only at hW;obtain⟨⟨rfl,hk⟩,hK⟩:=hW;refine dB (aH 3) (yf _ _) hK λe2 ob K2 hx db=>?_;unfold bh;exact⟨⟨rfl,hk⟩,db⟩
 case lookup t x i ok =>
  simp only at hW;split at hW
  ·rename_i ag l id eG L z fe jD iu;refine dA hW.2 λe2 ob K2 hx db=>?_;have h1:=hx.1 x (by simp[Op.operands]);have h2:=hx.1 i (by simp[Op.operands]);have h3:gJ ⟨e2,ob⟩ (ev σ x)=some (id,eG,L):=Ok (λrp bZ o ho=>by
    have:=hx.2 x (by simp[Op.operands]) rp (by rw[bZ];rfl);unfold iV at this;simp[cls]at this;exact this o ho) jD
   unfold bh;simp only[h1,h2,fe,h3,iu];exact⟨hW.1,db⟩
  ·exact hW.elim
 case mapUpdate t m k x =>
  simp only at hW;split at hW
  ·rename_i fe jD;obtain⟨iY,u9⟩:=hW;refine dB (v:=.undef) (os:=_) (by simp[cls]) trivial u9 λe2 ob K2 hx db=>?_;have h1:=hx.1 m (by simp[Op.operands]);have h2:=hx.1 k (by simp[Op.operands]);have h3:=hx.1 x (by simp[Op.operands]);have h4:gJ ⟨e2,σ.aa⟩ (ev σ m)=_:=jD;unfold bh;simp only[h1,h2,h3,fe,h4];exact⟨iY,db⟩
  ·exact hW.elim
 case mapEntry t m k =>
  simp only at hW;split at hW
  ·rename_i fe jD iu;obtain⟨iY,u9⟩:=hW;refine dB (v:=_) (os:=_) (by simp[cls]) trivial u9 λe2 ob K2 hx db=>?_;have h1:=hx.1 m (by simp[Op.operands]);have h2:=hx.1 k (by simp[Op.operands]);have h4:gJ ⟨e2,σ.aa⟩ (ev σ m)=_:=jD;unfold bh;simp only[h1,h2,fe,h4,iu];exact⟨iY,db⟩
  ·exact hW.elim
 case entryStore t m s x =>
  simp only at hW;split at hW
  ·rename_i hs jD;obtain⟨iY,u9⟩:=hW;refine dB (v:=.undef) (os:=_) (by simp[cls]) trivial u9 λe2 ob K2 hx db=>?_;have h1:=hx.1 m (by simp[Op.operands]);have h2:=hx.1 s (by simp[Op.operands]);have h3:=hx.1 x (by simp[Op.operands]);have h4:gJ ⟨e2,σ.aa⟩ (ev σ m)=_:=jD;unfold bh;simp only[h1,h2,h3,hs,h4];exact⟨iY,db⟩
  ·exact hW.elim
 all_goals(try simp only at hW);(try exact hW.elim)
 all_goals(repeat' split at hW)<;>first|exact hW.elim|exact hW.2.elim|exact hW.2.2.elim|refine dA hW ?_|refine dA hW.2 ?_|refine dA hW.2.2 ?_|refine dA hW.2.2.2 ?_|refine dB (aH 3) (yf _ _) hW.2 ?_|refine dB (aH 3) (yf _ _) hW.2.1 ?_
 all_goals
  intro e2 ob K2 hx db;unfold bh;simp[kD,Op.operands,tq,iV,cls,-gx, *]at hx ⊢;first|done|(simp_all;done)|(obtain⟨_,rfl,_⟩:=hW;simp_all;done)|(obtain⟨_,o',_,hk⟩:=hx;cases o'<;>simp_all [mE];done)
def Nt{o:Oper}{σ:St}{K:St->Prop}(hW:bh P o σ K):
  ∃ v os,gA (cls o.op) σ.aa os/\K ((⟨σ.env,os⟩:St).put o.dst v)/\∀ (e2:Nat->AV) (K2:St->Prop),(∀ x∈o.op.operands.toList,ev ⟨e2,σ.aa⟩ x=ev σ x)->K2 ((⟨e2,os⟩:St).put o.dst v)->bh P o ⟨e2,σ.aa⟩ K2:=by
 obtain⟨v,os,h1,h2,h3⟩:=G3 hW;refine⟨v,os,h1,h2,λe2 K2 hx hK=>h3 e2 _ os K2 ⟨hx,λ_ _ _ _=>?_⟩ ?_ hK⟩
 ·unfold iV;(repeat' split)<;>first|trivial|exact λo ho=>ho|exact λo ho=>⟨o,ho,tc o⟩
 ·split
  ·rename_i hc;simpa [gA,hc] using h1
  ·exact⟨rfl,rfl⟩
def Nv{o:Oper}{σ:St}{K:St->Prop}(hc:cls o.op<=2)(hW:bh P o σ K):
  ∃ v,K (σ.put o.dst v)/\∀ (σ2:St) (K2:St->Prop),(∀ x∈o.op.operands.toList,ev σ2 x=ev σ x)->(∀ x∈o.op.operands.toList,∀ id,tq (ev σ x)=some id->iV (cls o.op) σ.aa[id]? σ2.aa[id]?) ->
   K2 (σ2.put o.dst v)->bh P o σ2 K2:=by
 obtain⟨v,os,h1,h2,h3⟩:=G3 hW;simp only[gA,hc,if_true]at h1 h3;subst h1;exact⟨v,h2,λσ2 K2 hx ho hK=>h3 σ2.env σ2.aa _ K2 ⟨hx,ho⟩ rfl hK⟩
end Go.Am

