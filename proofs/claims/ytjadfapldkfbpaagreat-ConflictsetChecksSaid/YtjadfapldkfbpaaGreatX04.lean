import Derived.Test.YtjadfapldkfbpaaGreatX03
set_option linter.all false
set_option maxHeartbeats 0
set_option maxRecDepth 20000
open Bool renaming and_eq_true→bk
open List renaming mem_cons→cu,mem_of_getElem?→gY,getElem?_map→b6,getElem?_cons_zero→vP,getElem?_append_left→dg,getElem?_set_ne→bM,getElem?_cons_succ→vQ,getElem?_append_right→fO,length_cons→eu,eq_nil_of_length_eq_zero→sF,getElem?_eq_some_iff→aY,getD_eq_getElem?_getD→aG,mem_map_of_mem→G5,length_map→eO,mem_map→cC,all_eq_true→gV,map_congr_left→oM
open Option renaming map_eq_some_iff→yK,some→dD,map_some→fE
open Nat renaming lt_or_ge→fN,le_refl→aR
open Array renaming toList_append→BR,getD_eq_getD_getElem?→fU,getElem?_append_left→G6,getElem?_toList→DK,getElem?_map→PR
namespace Go.Am
variable {P:Program}
mutual
def br(ρ:Nat->Nat):AV->AV
 |.ref id sz off len=>.ref (ρ id) sz off len
 |.ptr id r c=>.ptr (ρ id) r c
 |.agg cs=>.agg (qt ρ cs)
 |.bH cs=>.bH (qt ρ cs)
 |.fn f cs=>.fn f (qt ρ cs)
 |.ja t v=>.ja t (br ρ v)
 |.g6 id=>.g6 (ρ id)
 |v=>v
def qt(ρ:Nat->Nat):List AV->List AV
 |[]=>[]
 |v::vs=>br ρ v::qt ρ vs
end
def xH(ρ:Nat->Nat)(l:List AV):qt ρ l=l.map (br ρ):=by
 induction l with
 |nil=>simp[qt]
 |cons v l ih=>simp[qt,ih]
def bU(ρ:Nat->Nat):Ob->Ob
 |.gone=>.gone
 |.var cs=>.var (cs.map (br ρ))
 |.arr sz rows=>.arr sz (rows.map (·.map (br ρ)))
 |.mp ag L=>.mp ag (L.map λp=>(p.1,br ρ p.2))
mutual
def flat:AV->Bool
 |.tree ..=>false
 |.bm _=>false
 |.agg cs=>Cb cs
 |.bH cs=>Cb cs
 |.fn _ cs=>Cb cs
 |.ja _ v=>flat v
 |_=>true
def Cb:List AV->Bool
 |[]=>true
 |v::vs=>flat v&&Cb vs
end
def K8{l:List AV}(h:Cb l=true):∀ v∈l,flat v=true:=by
 induction l with
 |nil=>intro v hv;simp at hv
 |cons x l ih =>
  simp only[Cb,bk]at h;intro v hv;rcases cu.1 hv with rfl|hv
  ·exact h.1
  ·exact ih h.2 v hv
def xC:Ob->Prop
 |.gone=>True
 |.var cs=>∀ v∈cs,flat v=true
 |.arr _ rows=>∀ row∈rows,∀ v∈row,flat v=true
 |.mp _ L=>∀ p∈L,flat p.2=true
def aA.ad1{os:List Ob}{w:World}{Z Z':Nat->Prop}{blk:ij}{v:AV}{cv:Value}(h:aA os w Z blk v cv)(hf:flat v=true):aA os w Z' blk v cv:=by
 induction h with
 |undef cv=>exact .undef cv
 |cp v cv h=>cases h<;>first|exact .cp _ _ (.lit _)|simp[flat]at hf
 |bm=>simp[flat]at hf
 |lV id sz off len cv h h1=>exact .lV id sz off len cv h h1
 |od id r c cv h h1=>exact .od id r c cv h h1
 |ref id sz off len b o cap cap' rows h hb hl hc ld=>exact .ref id sz off len b o cap cap' rows h hb hl hc ld
 |nA id sz h hb=>exact .nA id sz h hb
 |oe id sz off b x bo rows h hb hl=>exact .oe id sz off b x bo rows h hb hl
 |oS id c b cap cells h hb=>exact .oS id c b cap cells h hb
 |pM id r c sz b o cap rows h hb=>exact .pM id r c sz b o cap rows h hb
 |agg cs bz hs _ ih=>simp only[flat]at hf;exact .agg cs bz hs (λj x hx=>ih j x hx (K8 hf x (gY hx)))
 |bH cs bz hs _ ih=>simp only[flat]at hf;exact .bH cs bz hs (λj x hx=>ih j x hx (K8 hf x (gY hx)))
 |fn f cs bz hs _ ih=>simp only[flat]at hf;exact .fn f cs bz hs (λj x hx=>ih j x hx (K8 hf x (gY hx)))
 |ja t v cv _ ih=>simp only[flat]at hf;exact .ja t v cv (ih hf)
 |g6 id b ag L h hb=>exact .g6 id b ag L h hb
 |rG id cv h h1=>exact .rG id cv h h1
def aA.up{os os':List Ob}{w:World}{Z Z':Nat->Prop}{blk kI:ij}{ρ:Nat->Nat}{v:AV}{cv:Value}(h:aA os w Z blk v cv)(hz:∀ b,Z b->Z' b)(ho:∀ j o,os[j]?=some o->os'[ρ j]?=some (bU ρ o)/\(o≠.gone->kI (ρ j)=blk j)):aA os' w Z' kI (br ρ v) cv:=by
 induction h with
 |undef cv=>exact .undef cv
 |cp v cv h =>
  have h':aA os' w Z' kI v cv:=.cp _ _ (h.mono (λb hb=>⟨hz b hb,rfl⟩));cases h<;>simpa [br] using h'
 |bm cells b o f tH hc ht=>exact .bm cells b o f (hz b tH) hc (λj x hx=>(ht j x hx).mono (λb hb=>⟨hz b hb,rfl⟩))
 |lV id sz off len cv h h1=>exact .lV _ sz off len cv (ho id _ h).1 h1
 |od id r c cv h h1=>exact .od _ r c cv (ho id _ h).1 h1
 |ref id sz off len b o cap cap' rows h hb hl hc ld =>
  obtain⟨h1,h2⟩:=ho id _ h;exact .ref _ sz off len b o cap cap' _ h1 ((h2 G9).trans hb) (by simpa using hl) hc ld
 |nA id sz h hb =>
  obtain⟨h1,h2⟩:=ho id _ h;exact .nA _ sz h1 ((h2 G9).trans hb)
 |oe id sz off b x bo rows h hb hl =>
  obtain⟨h1,h2⟩:=ho id _ h;exact .oe _ sz off b x bo _ h1 ((h2 G9).trans hb) (by simpa using hl)
 |oS id c b cap cells h hb =>
  obtain⟨h1,h2⟩:=ho id _ h;exact .oS _ c b cap _ h1 ((h2 G9).trans hb)
 |pM id r c sz b o cap rows h hb =>
  obtain⟨h1,h2⟩:=ho id _ h;exact .pM _ r c sz b o cap _ h1 ((h2 G9).trans hb)
 |agg cs bz hs _ ih =>
  simp only[br,xH];refine .agg _ bz (by simpa using hs) (λj x hx=>?_);simp only[b6,yK]at hx;obtain⟨y,hy,rfl⟩:=hx;exact ih j y hy
 |bH cs bz hs _ ih =>
  simp only[br,xH];refine .bH _ bz (by simpa using hs) (λj x hx=>?_);simp only[b6,yK]at hx;obtain⟨y,hy,rfl⟩:=hx;exact ih j y hy
 |fn f cs bz hs _ ih =>
  simp only[br,xH];refine .fn f _ bz (by simpa using hs) (λj x hx=>?_);simp only[b6,yK]at hx;obtain⟨y,hy,rfl⟩:=hx;exact ih j y hy
 |ja t v cv _ ih=>simp only[br];exact .ja t _ cv ih
 |g6 id b ag L h hb =>
  obtain⟨h1,h2⟩:=ho id _ h;exact .g6 _ b ag _ h1 ((h2 G9).trans hb)
 |rG id cv h h1=>exact .rG _ cv (ho id _ h).1 h1
def Ea{ρ:Nat->Nat}{o:Ob}:bU ρ o=.gone↔o=.gone:=by cases o<;>simp[bU]
def Ob.ad2{ρ:Nat->Nat}{x y:Ob}(h:x.fj y):(bU ρ x).fj (bU ρ y):=by
 cases x<;>cases y<;>simp[Ob.fj,bU]at h ⊢<;>exact h
def aA.down{os os':List Ob}{w:World}{Z Z':Nat->Prop}{blk kI:ij}{ρ:Nat->Nat}{v:AV}{cv:Value}(h:aA os w Z blk v cv)(hz:∀ b,Z b->Z' b)(ho:∀ j x,os[ρ j]?=some x->∃ o,os'[j]?=some o/\(o=.gone\/(x=bU ρ o/\kI j=blk (ρ j)))):∀ v',v=br ρ v'->aA os' w Z' kI v' cv:=by
 induction h with
 |undef cv=>intro v' hv;cases v'<;>simp[br]at hv;exact .undef cv
 |cp v cv h =>
  intro v' hv;have h':aA os' w Z' kI v cv:=.cp _ _ (h.mono (λb hb=>⟨hz b hb,rfl⟩));cases h<;>cases v'<;>simp[br]at hv<;>(first|(subst hv;exact h')|(obtain⟨rfl,rfl⟩:=hv;exact h'))
 |bm cells b o f tH hc ht =>
  intro v' hv;cases v'<;>simp[br]at hv;subst hv;exact .bm _ b o f (hz b tH) hc (λj x hx=>(ht j x hx).mono (λb hb=>⟨hz b hb,rfl⟩))
 |lV id sz off len cv h h1 =>
  intro v' hv;cases v'<;>simp[br]at hv;obtain⟨rfl,rfl,rfl,rfl⟩:=hv;obtain⟨o,h2,rfl |⟨h3,_⟩⟩:=ho _ _ h
  ·exact .lV _ _ _ _ cv h2 h1
  ·have:=Ea.1 h3.symm;subst this;exact .lV _ _ _ _ cv h2 h1
 |od id r c cv h h1 =>
  intro v' hv;cases v'<;>simp[br]at hv;obtain⟨rfl,rfl,rfl⟩:=hv;obtain⟨o,h2,rfl |⟨h3,_⟩⟩:=ho _ _ h
  ·exact .od _ _ _ cv h2 h1
  ·have:=Ea.1 h3.symm;subst this;exact .od _ _ _ cv h2 h1
 |ref id sz off len b o cap cap' rows h hb hl hc ld =>
  intro v' hv;cases v'<;>simp[br]at hv;obtain⟨rfl,rfl,rfl,rfl⟩:=hv;obtain⟨x,h2,rfl |⟨h3,h4⟩⟩:=ho _ _ h
  ·exact .lV _ _ _ _ _ h2 rfl
  ·cases x<;>simp[bU]at h3;obtain⟨rfl,rfl⟩:=h3;exact .ref _ _ _ _ b o cap cap' _ h2 (h4.trans hb) (by simpa using hl) hc ld
 |nA id sz h hb =>
  intro v' hv;cases v'<;>simp[br]at hv;obtain⟨rfl,rfl,rfl,rfl⟩:=hv;obtain⟨x,h2,rfl |⟨h3,h4⟩⟩:=ho _ _ h
  ·exact .lV _ _ _ _ _ h2 rfl
  ·cases x<;>simp[bU]at h3;obtain⟨rfl,h3⟩:=h3;subst h3;exact .nA _ _ h2 (h4.trans hb)
 |oe id sz off b x bo rows h hb hl =>
  intro v' hv;cases v'<;>simp[br]at hv;obtain⟨rfl,rfl,rfl,rfl⟩:=hv;obtain⟨y,h2,rfl |⟨h3,h4⟩⟩:=ho _ _ h
  ·exact .lV _ _ _ _ _ h2 rfl
  ·cases y<;>simp[bU]at h3;obtain⟨rfl,rfl⟩:=h3;exact .oe _ _ _ b x bo _ h2 (h4.trans hb) (by simpa using hl)
 |oS id c b cap cells h hb =>
  intro v' hv;cases v'<;>simp[br]at hv;obtain⟨rfl,rfl,rfl⟩:=hv;obtain⟨y,h2,rfl |⟨h3,h4⟩⟩:=ho _ _ h
  ·exact .od _ _ _ _ h2 rfl
  ·cases y<;>simp[bU]at h3;exact .oS _ _ b cap _ h2 (h4.trans hb)
 |pM id r c sz b o cap rows h hb =>
  intro v' hv;cases v'<;>simp[br]at hv;obtain⟨rfl,rfl,rfl⟩:=hv;obtain⟨y,h2,rfl |⟨h3,h4⟩⟩:=ho _ _ h
  ·exact .od _ _ _ _ h2 rfl
  ·cases y<;>simp[bU]at h3;obtain⟨rfl,rfl⟩:=h3;exact .pM _ _ _ _ b o cap _ h2 (h4.trans hb)
 |agg cs bz hs _ ih =>
  intro v' hv;cases v'<;>simp[br,xH]at hv;rename_i sL;subst hv;exact .agg _ bz (by simpa using hs) (λj x hx=>ih j (br ρ x) (by simp[hx]) x rfl)
 |bH cs bz hs _ ih =>
  intro v' hv;cases v'<;>simp[br,xH]at hv;rename_i sL;subst hv;exact .bH _ bz (by simpa using hs) (λj x hx=>ih j (br ρ x) (by simp[hx]) x rfl)
 |fn f cs bz hs _ ih =>
  intro v' hv;cases v'<;>simp[br,xH]at hv;obtain⟨rfl,hv⟩:=hv;subst hv;exact .fn _ _ bz (by simpa using hs) (λj x hx=>ih j (br ρ x) (by simp[hx]) x rfl)
 |ja t v cv _ ih =>
  intro v' hv;cases v'<;>simp[br]at hv;obtain⟨rfl,hv⟩:=hv;exact .ja _ _ cv (ih _ hv)
 |g6 id b ag L h hb =>
  intro v' hv;cases v'<;>simp[br]at hv;subst hv;obtain⟨y,h2,rfl |⟨h3,h4⟩⟩:=ho _ _ h
  ·exact .rG _ _ h2 rfl
  ·cases y<;>simp[bU]at h3;obtain⟨rfl,h3⟩:=h3;exact .g6 _ b _ _ h2 (h4.trans hb)
 |rG id cv h h1 =>
  intro v' hv;cases v'<;>simp[br]at hv;subst hv;obtain⟨y,h2,rfl |⟨h3,h4⟩⟩:=ho _ _ h
  ·exact .rG _ _ h2 h1
  ·exact .rG _ _ (by rw[h2,Ea.1 h3.symm]) h1
def RH(P : Program)(f : FuncId): Prop := ∃ fn, P.funcs[f]? = some fn /\ (fn.name == "runtime.NumGoroutine") = false /\ fn.body.isNone = false
def an(P:Program)(f:FuncId)(args:List AV)(aa:List Ob)(res:AV)(bI:List Ob):Prop :=
 RH P f/\∀ γ:Cx,γ.tmps.size=args.length->bC ⟨λk=>args.getD k .undef,aa⟩ γ ->
  Calls P f γ.tmps γ.w (λe w'=>∃ cv aP,e=.returned cv/\aP.w=w'/\aP.tmps = #[cv]/\bC ⟨λk=>[res].getD k .undef,bI⟩ aP/\Fr aa γ bI aP)
inductive cG(σ:St)(kp:Nat->Prop):AV->AV->Prop
 |lit (x:Value):cG σ kp (.lit x) (.lit x)
 |tree (s:Nat) (r:List (List AV)):cG σ kp (.tree s r) (.tree s r)
 |nil (sz:Nat):cG σ kp (.tree sz []) (.lit (.slice none 0 0))
 |ref (id sz off len:Nat) (rows iF:List (List AV)) (g:Nat->Nat->AV) (ho:σ.aa[id]?=some (.arr sz rows)) (tB:¬ kp id) (hl:iF.length=((rows.drop off).take len).length) (hw:∀ row∈iF,row.length=sz)
   (h1:∀ r c v,cellAt iF r c=some v->cellAt ((rows.drop off).take len) r c=some (g r c)) (h2:∀ r c v,cellAt iF r c=some v->cG σ kp v (g r c)):cG σ kp (.tree sz iF) (.ref id sz off len)
inductive aI(σ:St)(kp:Nat->Prop)(ρ:Nat->Nat)(snap:Bool):AV->AV->Prop
 |same (v:AV):aI σ kp ρ snap v (br ρ v)
 |snap (c d:AV) (hs:snap=true) (h:cG σ kp c d):aI σ kp ρ snap c d
 |agg (cs ds:List AV) (hl:cs.length=ds.length) (h:∀ (j:Nat) c d,cs[j]?=some c->ds[j]?=some d->aI σ kp ρ snap c d):aI σ kp ρ snap (.agg cs) (.agg ds)
 |bH (cs ds:List AV) (hl:cs.length=ds.length) (h:∀ (j:Nat) c d,cs[j]?=some c->ds[j]?=some d->aI σ kp ρ snap c d):aI σ kp ρ snap (.bH cs) (.bH ds)
def bA(n:Nat)(aq:List Nat)(j:Nat):Nat:=if j<aq.length then aq.getD j 0 else n+(j-aq.length)
def fi(aa:List Ob):List Nat->List Ob->List Ob
 |i::aq,o::new=>fi (aa.set i o) aq new
 |[],new=>aa++new
 |_::_,[]=>aa
def K6(aq:List Nat):∀ (aa new:List Ob),aq.length<=new.length->(fi aa aq new).length=aa.length+(new.length-aq.length):=by
 induction aq with
 |nil=>intro aa new _;simp[fi]
 |cons i aq ih =>
  intro aa new h;cases new with
  |nil=>simp at h
  |cons o new=>simp only[fi];rw[ih _ _ (by simpa using h)];simp
def Hy(aq:List Nat):∀ (aa new:List Ob),aq.length<=new.length->aq.Nodup->(∀ i∈aq,i<aa.length)->∀ j,j<aq.length->(fi aa aq new)[aq.getD j 0]?=new[j]?:=by
 induction aq with
 |nil=>intro aa new _ _ _ j hj;simp at hj
 |cons i aq ih =>
  intro aa new h hn hl j hj;cases new with
  |nil=>simp at h
  |cons o new =>
   simp only[fi];rw[List.nodup_cons]at hn;have hi:=hl i G9;have h':aq.length<=new.length:=by simpa using h
   cases j with
   |zero =>
    simp only[List.getD_cons_zero,vP];have key:∀ (aq:List Nat) (aa new:List Ob),aq.length<=new.length->i ∉ aq->i<aa.length->(fi aa aq new)[i]?=aa[i]?:=by
     intro aq
     induction aq with
     |nil=>intro aa new _ _ hi;simp only[fi];rw[dg hi]
     |cons k aq ih2 =>
      intro aa new h Ap hi;cases new with
      |nil=>simp at h
      |cons o new =>
       simp only[cu,not_or]at Ap;simp only[fi];rw[ih2 _ _ (by simpa using h) Ap.2 (by simpa using hi),bM (Ne.symm Ap.1)]
    rw[key aq _ _ h' hn.1 (by simpa using hi)];simp[hi]
   |succ j =>
    simp only[List.getD_cons_succ,vQ];exact ih _ _ h' hn.2 (λk hk=>by simpa using hl k (by simp[hk])) j (by simpa using hj)
def HC(aq:List Nat):∀ (aa new:List Ob),aq.length<=new.length->∀ i,i ∉ aq->i<aa.length->(fi aa aq new)[i]?=aa[i]?:=by
 induction aq with
 |nil=>intro aa new _ i _ hi;simp only[fi];rw[dg hi]
 |cons k aq ih =>
  intro aa new h i Ap hi;cases new with
  |nil=>simp at h
  |cons o new =>
   simp only[cu,not_or]at Ap;simp only[fi];rw[ih _ _ (by simpa using h) i Ap.2 (by simpa using hi),bM (Ne.symm Ap.1)]
def RF(aq:List Nat):∀ (aa new:List Ob),aq.length<=new.length->∀ m,(fi aa aq new)[aa.length+m]?=new[aq.length+m]?:=by
 induction aq with
 |nil=>intro aa new _ m;simp only[fi];rw[fO G3];simp
 |cons k aq ih =>
  intro aa new h m;cases new with
  |nil=>simp at h
  |cons o new =>
   simp only[fi];have:=ih (aa.set k o) new (by simpa using h) m;simp only[List.length_set]at this;rw[this];simp only[eu];have e:aq.length+1+m=(aq.length+m)+1:=G3;rw[e];simp
end Go.Am
namespace Go.Am
variable {P:Program}
def HD(P:Program)(f:FuncId)(args:List AV)(σ:St)(K:AV->St->Prop):Prop :=
 ∃ (aq:List Nat) (snap:Bool) (dU:List AV) (cg:List Ob) (res:AV) (dt:List Ob),an P f dU cg res dt /\
  (aq.Nodup/\cg.length=aq.length/\(∀ (j:Nat) o,cg[j]?=some o->σ.aa[aq.getD j 0]?=some (bU (bA σ.aa.length aq) o)) /\
   dU.length=args.length/\(∀ (j:Nat) c d,dU[j]?=some c->args[j]?=some d->aI σ (·∈aq) (bA σ.aa.length aq) snap c d) /\
   (snap=true->flat res=true/\∀ o∈dt,xC o)) /\
  K (br (bA σ.aa.length aq) res) { σ with aa:=fi σ.aa aq (dt.map (bU (bA σ.aa.length aq))) }
def cG.Eb{σ:St}{γ:Cx}(h:bC σ γ){kp:Nat->Prop}{γc:Cx}(hz:∀ b,γ.Z b->γc.Z b)(hw:γc.w=γ.w)(K9:∀ id b o cap,¬ kp id->Live σ.aa id->γ.blk id=some (b,o,cap)->γc.Z b){c d:AV}(ha:cG σ kp c d):∀ cv,aA σ.aa γ.w γ.Z γ.blk d cv->gk γc.w γc.Z c cv:=by
 induction ha with
 |lit x=>intro cv hv;rw[hv.dm];exact .lit x
 |tree s r=>intro cv hv;exact hv.Aq.mono (λb hb=>⟨hz b hb,by rw[hw]⟩)
 |nil sz=>intro cv hv;rw[hv.dm];exact .nil sz 0 none
 |ref id sz off len rows iF g a8 tB hl0 Ht qq tC ih =>
  intro cv hv;obtain⟨h0,cZ,ad4⟩:=h.fF id _ a8;have c9:Live σ.aa id:=⟨_,a8,G9⟩;cases hv with
  |cp _ _ h=>cases h
  |lV _ _ _ _ _ h=>rw[a8]at h;simp at h
  |nA _ _ h' hb =>
   have:iF=[]:=sF (by simpa using hl0);subst this;exact gk.nil sz 0 none
  |oe _ _ _ b x bo ad5 h' hb hl =>
   have:iF=[]:=sF (by simpa using hl0);subst this;exact gk.nil sz 0 (some ⟨b,x,none⟩)
  |ref _ _ _ _ b o cap cap' ad5 h' hb hl hc ld =>
   rw[a8]at h';simp at h';subst h';rcases ad4 with⟨h1,_⟩|⟨b',o',Ec,cur,t,h1,h2,h3,h4,h5,h6⟩
   ·rw[hb]at h1;simp at h1
   ·rw[hb]at h1;simp at h1;obtain⟨rfl,rfl,rfl⟩:=h1;have hlen:((rows.drop off).take len).length=len:=PX;have tx:∀ r c v,cellAt ((rows.drop off).take len) r c=some v->cellAt rows (off+r) c=some v/\r<len:=by
     intro r c v hv;simp only[cellAt,List.getElem?_take,List.getElem?_drop]at hv;split at hv
     ·exact⟨hv,by assumption⟩
     ·simp at hv
    have KF:γc.Z b:=K9 id b o cap tB c9 hb;have:=gk.tree (w:=γc.w) (Z:=γc.Z) sz iF b (o+off*sz) cap' (λr c=>cur.getD (o+((off+r)*sz+c)) Go.undef) KF
     Ht (by rw[hl0,hlen];exact ld)
     (λr c v hv=>by
      obtain⟨rH,hr⟩:=tx r c _ (qq r c v hv);obtain⟨uL,iR⟩:=Ed cZ rH;have bx:=Ar (show off+r<cap by omega) iR;rw[hw];have e:o+off*sz+(r*sz+c)=o+((off+r)*sz+c):=by rw[Nat.add_mul];omega
      rw[e];exact Cc h2 G3)
     (λr c v hv=>by
      obtain⟨rH,_⟩:=tx r c _ (qq r c v hv);exact ih r c v hv _ (h6 _ _ _ rH))
    rw[hl0,hlen]at this;exact this
def aI.rel{σ:St}{γ:Cx}(h:bC σ γ){kp:Nat->Prop}{ρ:Nat->Nat}{cg:List Ob}{snap:Bool}{γc:Cx}(hz:∀ b,γ.Z b->γc.Z b)(hw:γc.w=γ.w)(K9:snap=true->∀ id b o cap,¬ kp id->Live σ.aa id->γ.blk id=some (b,o,cap)->γc.Z b)(ho:∀ j x,σ.aa[ρ j]?=some x->∃ o,cg[j]?=some o/\(o=.gone\/(x=bU ρ o/\γc.blk j=γ.blk (ρ j)))){c d:AV}(ha:aI σ kp ρ snap c d):∀ cv,aA σ.aa γ.w γ.Z γ.blk d cv->aA cg γc.w γc.Z γc.blk c cv:=by
 induction ha with
 |same v =>
  intro cv hv;rw[hw];exact hv.down hz ho v rfl
 |snap c d hs hf =>
  intro cv hv;exact .cp _ _ (hf.Eb h hz hw (K9 hs) cv hv)
 |agg cs ds hl _ ih =>
  intro cv hv;obtain⟨bz,rfl,h1,h2⟩:=hv.RJ;refine .agg cs bz G3 (λj x hx=>?_);have hj:j<ds.length:=by have:=(aY.1 hx).1;omega
  exact ih j x ds[j] hx (by simp[hj]) _ (h2 j _ (by simp[hj]))
 |bH cs ds hl _ ih =>
  intro cv hv;obtain⟨bz,rfl,h1,h2⟩:=hv.RK;refine .bH cs bz G3 (λj x hx=>?_);have hj:j<ds.length:=by have:=(aY.1 hx).1;omega
  exact ih j x ds[j] hx (by simp[hj]) _ (h2 j _ (by simp[hj]))
def RL{n:Nat}{aq:List Nat}(_hs:∀ i∈aq,i<n){j:Nat}(h:bA n aq j<n):j<aq.length/\bA n aq j=aq.getD j 0:=by
 unfold bA at h ⊢;split
 ·exact⟨by assumption,rfl⟩
 ·rename_i hj;rw[if_neg hj]at h;omega
def aB{aq:List Nat}{j:Nat}(h:j<aq.length):aq.getD j 0∈aq:=by
 rw[aG];simp[h]
def RM{aq:List Nat}(hn:aq.Nodup){i j:Nat}(hi:i<aq.length)(hj:j<aq.length)(h:aq.getD i 0=aq.getD j 0):i=j:=by
 rw[aG,aG]at h;simp[hi,hj]at h;exact(List.getElem_inj hn).1 h
def HE{aq:List Nat}{i:Nat}(h:i∈aq):∃j,j<aq.length/\aq.getD j 0=i:=by
 obtain⟨j,hj⟩:=List.mem_iff_getElem?.1 h;have:=(aY.1 hj).1;exact⟨j,this,by rw[aG,hj];rfl⟩
def fG(P:Program)(f:FuncId)(args:List AV)(aa:List Ob)(jd:AV->List Ob->Prop):Prop :=
 RH P f/\∀ γ:Cx,γ.tmps.size=args.length->bC ⟨λk=>args.getD k .undef,aa⟩ γ ->
  Calls P f γ.tmps γ.w (λe w'=>∃ res bI cv aP,jd res bI/\e=.returned cv/\aP.w=w'/\aP.tmps = #[cv]/\bC ⟨λk=>[res].getD k .undef,bI⟩ aP/\Fr aa γ bI aP)
def K'(P:Program)(f:FuncId)(args:List AV)(σ:St)(K:AV->St->Prop):Prop :=
 ∃ (aq:List Nat) (snap:Bool) (dU:List AV) (cg:List Ob) (jd:AV->List Ob->Prop),fG P f dU cg jd /\
  (aq.Nodup/\cg.length=aq.length/\(∀ (j:Nat) o,cg[j]?=some o->σ.aa[aq.getD j 0]?=some (bU (bA σ.aa.length aq) o)) /\
   dU.length=args.length/\(∀ (j:Nat) c d,dU[j]?=some c->args[j]?=some d->aI σ (·∈aq) (bA σ.aa.length aq) snap c d)) /\
  ∀ res dt,jd res dt->(snap=true->flat res=true/\∀ o∈dt,xC o) /\
   K (br (bA σ.aa.length aq) res) { σ with aa:=fi σ.aa aq (dt.map (bU (bA σ.aa.length aq))) }
def RN{σ:St}{γ:Cx}(h:bC σ γ){f:FuncId}{args:List AV}{argv:Array Value}(bg:argv.size=args.length)(La:∀ (j:Nat) d,args[j]?=some d->aA σ.aa γ.w γ.Z γ.blk d (argv.getD j Go.undef)){K:AV->St->Prop}(hc:K' P f args σ K):
  Calls P f argv γ.w (λe w'=>∃ cv v σ' aP,e=.returned cv/\aP.w=w'/\aP.tmps=γ.tmps/\bC σ' aP/\Fr σ.aa γ σ'.aa aP/\aA σ'.aa aP.w aP.Z aP.blk v cv/\K v σ'/\σ'.env=σ.env):=by
 obtain⟨aq,snap,dU,cg,jd,hH,⟨b7,bY,nB,gJ,oQ⟩,hKP⟩:=hc;have fA:∀ i∈aq,i<σ.aa.length:=by
  intro i hi;obtain⟨j,hj,rfl⟩:=HE hi;have:j<cg.length:=G3;exact(aY.1 (nB j cg[j] (by simp[this]))).1
 let ρ:=bA σ.aa.length aq
 let S:Nat->Prop:=λb=>snap=true/\∃ id o cap,id ∉ aq/\Live σ.aa id/\γ.blk id=some (b,o,cap)
 let γc:Cx:={ w:=γ.w,tmps:=argv,Z:=λb=>γ.Z b\/S b,blk:=λj=>if j<aq.length then γ.blk (aq.getD j 0) else none }
 have xK:∀ j x,σ.aa[ρ j]?=some x->∃ o,cg[j]?=some o/\(o=.gone\/(x=bU ρ o/\γc.blk j=γ.blk (ρ j))):=by
  intro j x hx;obtain⟨hj,hr⟩:=RL fA (aY.1 hx).1;have nC:j<cg.length:=G3;have:=nB j cg[j] (by simp[nC]);refine⟨cg[j],by simp[nC],.inr ⟨?_,?_⟩⟩
  ·have cV:σ.aa[bA σ.aa.length aq j]?=some x:=hx;rw[hr,this]at cV;simpa using cV.symm
  ·show(if j<aq.length then γ.blk (aq.getD j 0) else none)=γ.blk (bA σ.aa.length aq j);rw[if_pos hj,hr]
 have jU:∀ b,γ.Z b->γc.Z b:=λb hb=>.inl hb;have we:∀ j,Live cg j->Live σ.aa (aq.getD j 0)/\j<aq.length:=by
  rintro j⟨o,ho,hg⟩;have hj:=(aY.1 ho).1;exact⟨⟨_,nB j o ho,λe=>hg (Ea.1 e)⟩,G3⟩
 have qu:=λ{i b o c}=>h.blt (i:=i) (b:=b) (o:=o) (c:=c);have Lb:bC ⟨λk=>dU.getD k .undef,cg⟩ γc:=by
  refine⟨λk=>?_,?_,?_,?_,?_,λg=>Cd (h.gl g) λb hb=>⟨jU b hb,rfl⟩⟩
  ·rcases fN k dU.length with hk|hk
   ·have e:dU.getD k .undef=dU[k]:=by simp[hk]
    show aA cg γc.w γc.Z γc.blk (dU.getD k .undef) _;rw[e];have oT:k<args.length:=G3;exact(oQ k dU[k] args[k] (by simp[hk]) (by simp[oT])).rel h jU rfl (λhs id b o cap cT hl hb=>.inr ⟨hs,id,o,cap,cT,hl,hb⟩) xK _ (La k _ (by simp[oT]))
   ·have e:dU.getD k .undef=.undef:=by simp[hk]
    show aA cg γc.w γc.Z γc.blk (dU.getD k .undef) _;rw[e];exact .undef _
  ·intro j o ho;have hj:=(aY.1 ho).1;have Ee:j<aq.length:=by rw[<- bY];exact hj
   have a8:=h.fF _ _ (nB j o ho);have hb:γc.blk j=γ.blk (aq.getD j 0):=by show(if j<aq.length then _ else _)=_;rw[if_pos Ee]
   cases o with
   |gone=>trivial
   |var cells =>
    obtain⟨b,cap,cur,t,h1,h2,h3,h4⟩:=a8;exact⟨b,cap,cur,t,hb.trans h1,h2,by simpa using h3,λc v hv=>(h4 c (br ρ v) (by simp[hv];rfl)).down jU xK v rfl⟩
   |mp ag L =>
    obtain⟨b,f,h1,h2,h3,h4⟩:=a8;refine⟨b,f,hb.trans h1,?_,λp hp=>h3 (p.1,br ρ p.2) (G5 (f:=λp:List Int×AV=>(p.1,br ρ p.2)) hp),λj p hp=>(h4 j (p.1,br ρ p.2) (by simp only[b6,hp];rfl)).down jU xK p.2 rfl⟩;rw[Le,eO]at h2;exact h2
   |arr sz rows =>
    obtain⟨h0,hr,a8⟩:=a8;refine⟨h0,λrow bj=>by simpa using hr (row.map (br ρ)) (G5 bj),?_⟩;rcases a8 with⟨h1,h2⟩|⟨b,o,cap,cur,t,h1,h2,h3,h4,h5,h6⟩
    ·exact .inl ⟨hb.trans h1,by simpa using h2⟩
    ·refine .inr ⟨b,o,cap,cur,t,hb.trans h1,h2,h3,by simpa using h4,h5,λr c v hv=>(h6 r c (br ρ v) ?_).down jU xK v rfl⟩;simp only[cellAt,b6]at hv ⊢;cases cB:rows[r]? with
     |none=>simp[cB]at hv
     |some row=>simp[cB]at hv ⊢;exact⟨v,hv,rfl⟩
  ·intro i j b o c o' c' hi hj im iT;obtain⟨h1,h2⟩:=we i hi;obtain⟨h3,h4⟩:=we j hj;have e1:γc.blk i=γ.blk (aq.getD i 0):=by show(if i<aq.length then _ else _)=_;rw[if_pos h2]
   have e2:γc.blk j=γ.blk (aq.getD j 0):=by show(if j<aq.length then _ else _)=_;rw[if_pos h4]
   exact RM b7 h2 h4 (h.inj _ _ b o c o' c' h1 h3 (e1▸im) (e2▸iT))
  ·rintro b ⟨i,o,c,hi,hb⟩ hz;obtain⟨h1,h2⟩:=we i hi;have e1:γc.blk i=γ.blk (aq.getD i 0):=by show(if i<aq.length then _ else _)=_;rw[if_pos h2]
   rw[e1]at hb;rcases hz with hz|⟨_,id,o',cap',cT,hl,cW⟩
   ·exact h.nz b ⟨_,o,c,h1,hb⟩ hz
   ·have:=h.inj _ _ b o c o' cap' h1 hl hb cW;exact cT (this▸aB h2)
  ·rintro b (hb|⟨_,id,o,cap,_,hl,hb⟩)
   ·exact h.jm b hb
   ·exact qu hl hb
 have kJ:=hH.2 γc (by show argv.size=_;omega) Lb;refine kJ.mono ?_;rintro e w'⟨res,dt,cv,aP,Lf,rfl,rfl,yQ,iB,gn⟩;obtain⟨RO,hK⟩:=hKP res dt Lf;have ad7:aq.length<=dt.length:=by have:=gn.len;omega
 let new:=dt.map (bU ρ)
 have ak:aq.length<=new.length:=by simpa [new] using ad7
 let qv:=fi σ.aa aq new
 let jV:Cx:={ w:=aP.w,tmps:=γ.tmps,Z:=λb=>aP.Z b/\¬ S b,blk:=λi=>if i<σ.aa.length then γ.blk i else aP.blk (aq.length+(i-σ.aa.length)) }
 have Ef:∀ j o,dt[j]?=some o->qv[ρ j]?=some (bU ρ o)/\(o≠.gone->jV.blk (ρ j)=aP.blk j):=by
  intro j o ho;by_cases hj:j<aq.length
  ·have e:ρ j=aq.getD j 0:=by show bA _ _ _=_;simp only[bA];rw[if_pos hj]
   have bJ:=fA _ (aB hj);refine⟨?_,λhg=>?_⟩
   ·rw[e];show(fi σ.aa aq new)[aq.getD j 0]?=_;rw[Hy aq σ.aa new ak b7 fA j hj];simp[new,ho]
   ·rw[e];show(if aq.getD j 0<σ.aa.length then _ else _)=_;rw[if_pos bJ];have:=(gn.lk j G3 ⟨o,ho,hg⟩).1;rw[this];show _=if j<aq.length then _ else _;rw[if_pos hj]
  ·have e:ρ j=σ.aa.length+(j-aq.length):=by show bA _ _ _=_;simp only[bA];rw[if_neg hj]
   have e2:aq.length+(j-aq.length)=j:=G3;refine⟨?_,λhg=>?_⟩
   ·rw[e];show(fi σ.aa aq new)[_]?=_;rw[RF aq σ.aa new ak,e2];simp[new,ho]
   ·rw[e];show(if σ.aa.length+(j-aq.length)<σ.aa.length then _ else aP.blk (aq.length+(σ.aa.length+(j-aq.length)-σ.aa.length)))=_;rw[if_neg G3];congr 1;omega
 have RP:∀ b,S b->¬ γ.Z b:=by
  rintro b⟨_,id,o,cap,_,hl,hb⟩;exact h.nz b ⟨id,o,cap,hl,hb⟩
 have Ce:∀ b,qw cg γc.blk b->∃ i∈aq,∃ o cap,Live σ.aa i/\γ.blk i=some (b,o,cap):=by
  rintro b⟨j,o,c,hl,hb⟩;obtain⟨h1,h2⟩:=we j hl;have e1:γc.blk j=γ.blk (aq.getD j 0):=by show(if j<aq.length then _ else _)=_;rw[if_pos h2]
  exact⟨_,aB h2,o,c,h1,e1▸hb⟩
 have Lh:∀ i,i ∉ aq->Live σ.aa i->∀ b o c,γ.blk i=some (b,o,c)->aP.w.heap[b]?=γ.w.heap[b]?:=by
  intro i hi hl b o c hb;refine gn.aH b (qu hl hb) (λho=>?_);obtain⟨i',hi',o',c',jF,cW⟩:=Ce b ho;have:=h.inj _ _ b o c o' c' hl jF hb cW;exact hi (this▸hi')
 have Li:∀ v cv,aA σ.aa γ.w γ.Z γ.blk v cv->aA qv jV.w jV.Z jV.blk v cv:=by
  intro v cv hv;refine hv.mono (λb hb=>⟨⟨gn.z0 b (jU b hb),λhs=>RP b hs hb⟩,?_⟩) (λi o ho=>?_)
  ·refine gn.aH b (h.jm b hb) (λho=>?_);obtain⟨i',_,o',c',jF,cW⟩:=Ce b ho;exact h.nz b ⟨i',o',c',jF,cW⟩ hb
  ·have hi:=(aY.1 ho).1;have g7:jV.blk i=γ.blk i:=by show(if i<σ.aa.length then _ else _)=_;rw[if_pos hi]
   by_cases oU:i∈aq
   ·obtain⟨j,hj,rfl⟩:=HE oU;have nC:j<dt.length:=G3;have As:qv[aq.getD j 0]?=some (bU ρ dt[j]):=by
     show(fi σ.aa aq new)[aq.getD j 0]?=_;rw[Hy aq σ.aa new ak b7 fA j hj];simp[new,nC]
    by_cases hg:dt[j]=.gone
    ·left;rw[As,hg];rfl
    ·right;refine⟨g7,_,As,?_⟩;obtain⟨_,x,x',hx,cV,g9⟩:=gn.lk j G3 ⟨dt[j],by simp[nC],hg⟩;have e1:dt[j]=x':=by simpa [nC] using cV
     have e2:=nB j x hx;rw[ho]at e2;simp at e2;rw[e1,e2];exact Ob.ad2 g9
   ·have As:qv[i]?=some o:=by
     show(fi σ.aa aq new)[i]?=_;rw[HC aq σ.aa new ak i oU hi];exact ho
    by_cases hg:o=.gone
    ·subst hg;exact .inl As
    ·exact .inr ⟨g7,o,As,Ob.kK hg⟩
 have HF:∀ v cv,aA dt aP.w aP.Z aP.blk v cv->(snap=true->flat v=true)->aA qv jV.w jV.Z jV.blk (br ρ v) cv:=by
  intro v cv hv fK;by_cases oV:snap=true
  ·exact(hv.ad1 (Z':=jV.Z) (fK oV)).up (λb hb=>hb) Ef
  ·exact hv.up (λb hb=>⟨hb,λhs=>oV hs.1⟩) Ef
 have qx:∀ i,Live qv i->(i<σ.aa.length/\i ∉ aq/\Live σ.aa i/\jV.blk i=γ.blk i)\/∃ j,Live dt j/\i=ρ j/\jV.blk i=aP.blk j:=by
  rintro i⟨o,ho,hg⟩;have hlen:=(aY.1 ho).1;have Hz:qv.length=σ.aa.length+(new.length-aq.length):=K6 aq σ.aa new ak;have RQ:new.length=dt.length:=by simp[new]
  rcases fN i σ.aa.length with hi|hi
  ·by_cases oU:i∈aq
   ·right;obtain⟨j,hj,rfl⟩:=HE oU;have nC:j<dt.length:=G3;have e:ρ j=aq.getD j 0:=by show bA _ _ _=_;simp only[bA];rw[if_pos hj]
    have hx:=Ef j dt[j] (by simp[nC]);rw[e]at hx;rw[ho]at hx;simp only[dD.injEq]at hx;have tI:dt[j]≠.gone:=by intro h0;apply hg;rw[hx.1,h0];rfl
    exact⟨j,⟨_,by simp[nC],tI⟩,e.symm,hx.2 tI⟩
   ·left;have:qv[i]?=σ.aa[i]?:=HC aq σ.aa new ak i oU hi;rw[this]at ho;exact⟨hi,oU,⟨o,ho,hg⟩,by show(if i<σ.aa.length then _ else _)=_;rw[if_pos hi]⟩
  ·right;have nC:aq.length+(i-σ.aa.length)<dt.length:=G3;have e:ρ (aq.length+(i-σ.aa.length))=i:=by
    show bA _ _ _=_;simp only[bA];rw[if_neg G3];omega
   have hx:=Ef _ _ (show dt[aq.length+(i-σ.aa.length)]?=some dt[aq.length+(i-σ.aa.length)] by simp[nC]);rw[e]at hx;rw[ho]at hx;simp only[dD.injEq]at hx;have tI:dt[aq.length+(i-σ.aa.length)]≠.gone:=by intro h0;apply hg;rw[hx.1,h0];rfl
   exact⟨_,⟨_,by simp[nC],tI⟩,e.symm,hx.2 tI⟩
 have Lj:∀ j b o c,Live dt j->aP.blk j=some (b,o,c)->(∃ i∈aq,∃ o cap,Live σ.aa i/\γ.blk i=some (b,o,cap))\/γ.w.heap.size<=b:=by
  intro j b o c hl hb;rcases gn.own b ⟨j,o,c,hl,hb⟩ with h1|h1
  ·exact .inl (Ce b h1)
  ·exact .inr h1
 have ad8:bC ⟨σ.env,qv⟩ jV:=by
  refine⟨λk=>Li _ _ (h.au k),?_,?_,?_,?_,λg=>Li _ _ (h.gl g)⟩
  ·intro i o ho;by_cases bE:o=.gone
   ·subst bE;trivial
   rcases qx i ⟨o,ho,bE⟩ with⟨hi,oU,hl,g7⟩|⟨j,⟨x,hx,ed⟩,rfl,g7⟩
   ·have he:qv[i]?=σ.aa[i]?:=HC aq σ.aa new ak i oU hi;have cy:σ.aa[i]?=some o:=by rw[<- he];exact ho
    exact(h.fF i o cy).mono Li g7 (λb o c hb=>Lh i oU hl b o c hb)
   ·have Lk:=(Ef j x hx).1;have e:o=bU ρ x:=by
     have:qv[ρ j]?=some o:=ho;rw[Lk]at this;simpa using this.symm
    subst e;have a8:=iB.fF j x hx;have fK:snap=true->xC x:=λhs=>(RO hs).2 x (gY hx);cases x with
    |gone=>trivial
    |var cells =>
     obtain⟨b,cap,cur,t,h1,h2,h3,h4⟩:=a8;refine⟨b,cap,cur,t,g7.trans h1,h2,by simpa using h3,λc v hv=>?_⟩;simp only[b6,yK]at hv;obtain⟨y,hy,rfl⟩:=hv;exact HF _ _ (h4 c y hy) (λhs=>fK hs y (gY hy))
    |mp ag L =>
     obtain⟨b,f,h1,h2,h3,h4⟩:=a8;refine⟨b,f,g7.trans h1,?_,λp hp=>?_,λj p hp=>?_⟩
     ·rw[Le,eO];exact h2
     ·obtain⟨y,hy,rfl⟩:=cC.1 hp;exact h3 y hy
     ·simp only[b6,yK]at hp;obtain⟨y,hy,rfl⟩:=hp;exact HF _ _ (h4 j y hy) (λhs=>fK hs y (gY hy))
    |arr sz rows =>
     obtain⟨h0,hr,a8⟩:=a8;refine⟨h0,?_,?_⟩
     ·intro row bj;simp only[cC]at bj;obtain⟨y,hy,rfl⟩:=bj;simpa using hr y hy
     ·rcases a8 with⟨h1,h2⟩|⟨b,o,cap,cur,t,h1,h2,h3,h4,h5,h6⟩
      ·exact .inl ⟨g7.trans h1,by simpa using h2⟩
      ·refine .inr ⟨b,o,cap,cur,t,g7.trans h1,h2,h3,by simpa using h4,h5,λr c v hv=>?_⟩;simp only[cellAt,b6]at hv;cases cB:rows[r]? with
       |none=>simp[cB]at hv
       |some row =>
        simp only[cB,fE,Option.bind_some,b6,yK]at hv;obtain⟨y,hy,rfl⟩:=hv;exact HF _ _ (h6 r c y (by simp[cellAt,cB,hy])) (λhs=>fK hs row (gY cB) y (gY hy))
  ·intro i j b o c o' c' hi hj im iT;rcases qx i hi with⟨iU,oU,uW,g7⟩|⟨ji,Cf,rfl,g7⟩<;>rcases qx j hj with⟨kL,Ee,tJ,Eg⟩|⟨jj,RS,rfl,Eg⟩
   ·exact h.inj i j b o c o' c' uW tJ (g7▸im) (Eg▸iT)
   ·rw[g7]at im;rw[Eg]at iT;rcases Lj jj b o' c' RS iT with⟨i',hi',o1,c1,jF,cW⟩|og
    ·exact absurd (h.inj i i' b o c o1 c1 uW jF im cW) (λe=>oU (e▸hi'))
    ·have:=qu uW im;omega
   ·rw[g7]at im;rw[Eg]at iT;rcases Lj ji b o c Cf im with⟨i',hi',o1,c1,jF,cW⟩|og
    ·exact absurd (h.inj j i' b o' c' o1 c1 tJ jF iT cW) (λe=>Ee (e▸hi'))
    ·have:=qu tJ iT;omega
   ·rw[g7]at im;rw[Eg]at iT;rw[iB.inj ji jj b o c o' c' Cf RS im iT]
  ·rintro b ⟨i,o,c,hi,hb⟩ ⟨hz,wg⟩;rcases qx i hi with⟨iU,oU,uW,g7⟩|⟨ji,Cf,rfl,g7⟩
   ·rw[g7]at hb;rcases gn.z1 b hz with(h1|h1)|h1|h1
    ·exact h.nz b ⟨i,o,c,uW,hb⟩ h1
    ·exact wg h1
    ·obtain⟨i',hi',o1,c1,jF,cW⟩:=Ce b h1;exact oU ((h.inj i i' b o c o1 c1 uW jF hb cW)▸hi')
    ·have:=qu uW hb;have Au:γ.w.heap.size<=b:=h1;omega
   ·rw[g7]at hb;exact iB.nz b ⟨ji,o,c,Cf,hb⟩ hz
  ·rintro b ⟨hz,_⟩;exact iB.jm b hz
 refine⟨cv,br ρ res,⟨σ.env,qv⟩,jV,rfl,rfl,rfl,ad8,?_,?_,hK,rfl⟩
 ·refine⟨gn.nt,gn.tape,gn.output,gn.size,?_,?_,?_,?_,?_,?_,gn.drawn⟩
  ·intro b hb nD;refine gn.aH b hb (λho=>nD ?_);obtain⟨i',_,o1,c1,jF,cW⟩:=Ce b ho;exact⟨i',o1,c1,jF,cW⟩
  ·intro b hb;exact⟨gn.z0 b (jU b hb),λhs=>RP b hs hb⟩
  ·rintro b ⟨hz,wg⟩;rcases gn.z1 b hz with(h1|h1)|h1|h1
   ·exact .inl h1
   ·exact absurd h1 wg
   ·obtain⟨i',_,o1,c1,jF,cW⟩:=Ce b h1;exact .inr (.inl ⟨i',o1,c1,jF,cW⟩)
   ·exact .inr (.inr h1)
  ·rintro b ⟨i,o,c,hi,hb⟩;rcases qx i hi with⟨iU,oU,uW,g7⟩|⟨ji,Cf,rfl,g7⟩
   ·rw[g7]at hb;exact .inl ⟨i,o,c,uW,hb⟩
   ·rw[g7]at hb;rcases Lj ji b o c Cf hb with⟨i',_,o1,c1,jF,cW⟩|og
    ·exact .inl ⟨i',o1,c1,jF,cW⟩
    ·exact .inr og
  ·show σ.aa.length<=(fi σ.aa aq new).length;rw[K6 aq σ.aa new ak];omega
  ·rintro i hi ⟨o,ho,hg⟩;refine⟨by show(if i<σ.aa.length then _ else _)=_;rw[if_pos hi],?_⟩;by_cases oU:i∈aq
   ·obtain⟨j,hj,rfl⟩:=HE oU;have nC:j<dt.length:=G3;have As:qv[aq.getD j 0]?=some (bU ρ dt[j]):=by
     show(fi σ.aa aq new)[aq.getD j 0]?=_;rw[Hy aq σ.aa new ak b7 fA j hj];simp[new,nC]
    have e9:qv[aq.getD j 0]?=some o:=ho;rw[As]at e9;simp only[dD.injEq]at e9;have tI:dt[j]≠.gone:=by intro h0;apply hg;rw[<- e9,h0];rfl
    obtain⟨_,x,x',hx,cV,g9⟩:=gn.lk j G3 ⟨dt[j],by simp[nC],tI⟩;have e1:dt[j]=x':=by simpa [nC] using cV
    refine⟨bU ρ x,o,nB j x hx,ho,?_⟩;rw[<- e9,e1];cases x<;>cases x'<;>simp_all [Ob.fj,bU]
   ·have he:qv[i]?=σ.aa[i]?:=HC aq σ.aa new ak i oU hi;have cy:σ.aa[i]?=some o:=by rw[<- he];exact ho
    exact⟨o,o,cy,ho,Ob.kK hg⟩
 ·have:=iB.au 0;rw[yQ]at this;exact HF res cv (by simpa using this) (λhs=>(RO hs).1)
def an.r{f:FuncId}{args:List AV}{aa:List Ob}{res:AV}{bI:List Ob}(h:an P f args aa res bI):fG P f args aa (λr os=>r=res/\os=bI) :=
 ⟨h.1,λγ bg hs=>(h.2 γ bg hs).mono λ_ _ ⟨cv,aP,h1,h2,h3,h4,h5⟩=>⟨res,bI,cv,aP,⟨rfl,rfl⟩,h1,h2,h3,h4,h5⟩⟩
def HD.r{f:FuncId}{args:List AV}{σ:St}{K:AV->St->Prop}(h:HD P f args σ K):K' P f args σ K:=by
 obtain⟨aq,snap,dU,cg,res,dt,h1,⟨h2,h3,h4,h5,h6,h7⟩,h8⟩:=h;exact⟨aq,snap,dU,cg,_,h1.r,⟨h2,h3,h4,h5,h6⟩,λr os ⟨e1,e2⟩=>by subst e1;subst e2;exact⟨h7,h8⟩⟩
def RT{σ:St}{γ:Cx}(h:bC σ γ){f:FuncId}{args:List AV}{argv:Array Value}(bg:argv.size=args.length)(La:∀ (j:Nat) d,args[j]?=some d->aA σ.aa γ.w γ.Z γ.blk d (argv.getD j Go.undef)){K:AV->St->Prop}(hc:HD P f args σ K):
  Calls P f argv γ.w (λe w'=>∃ cv v σ' aP,e=.returned cv/\aP.w=w'/\aP.tmps=γ.tmps/\bC σ' aP/\Fr σ.aa γ σ'.aa aP/\aA σ'.aa aP.w aP.Z aP.blk v cv/\K v σ'/\σ'.env=σ.env) :=
 RN h bg La hc.r
end Go.Am
namespace Go.Am
variable {P:Program}
def bC.select{σ:St}{γ:Cx}(h:bC σ γ)(aq:List Nat)(snap:Bool)(cg:List Ob)(b7:aq.Nodup)(bY:cg.length=aq.length)(nB:∀ (j:Nat) o,cg[j]?=some o->o=.gone\/σ.aa[aq.getD j 0]?=some (bU (bA σ.aa.length aq) o))(fA:∀ i∈aq,i<σ.aa.length)(e:Nat->AV)(tm:Array Value)(he:∀ k,e k=.undef\/∃ d,aI σ (λid=>∃ j,j<aq.length/\aq.getD j 0=id/\cg[j]?≠some .gone) (bA σ.aa.length aq) snap (e k) d/\aA σ.aa γ.w γ.Z γ.blk d (tm.getD k Go.undef)):
  ∃ aP,aP.w=γ.w/\aP.tmps=tm/\bC ⟨e,cg⟩ aP/\((∀ i,i<cg.length->aP.blk i=γ.blk (aq.getD i 0))/\(∀ b,γ.Z b->aP.Z b)/\(∀ b,aP.Z b->γ.Z b\/qw σ.aa γ.blk b) /\
   ∀ i,Live cg i->Live σ.aa (aq.getD i 0)/\∃ o,cg[i]?=some o/\σ.aa[aq.getD i 0]?=some (bU (bA σ.aa.length aq) o)):=by
 let ρ:=bA σ.aa.length aq
 let kp:Nat->Prop:=λid=>∃ j,j<aq.length/\aq.getD j 0=id/\cg[j]?≠some .gone
 let S:Nat->Prop:=λb=>snap=true/\∃ id o cap,¬ kp id/\Live σ.aa id/\γ.blk id=some (b,o,cap)
 let γc:Cx:={ w:=γ.w,tmps:=tm,Z:=λb=>γ.Z b\/S b,blk:=λj=>if j<aq.length then γ.blk (aq.getD j 0) else none }
 have xK:∀ j x,σ.aa[ρ j]?=some x->∃ o,cg[j]?=some o/\(o=.gone\/(x=bU ρ o/\γc.blk j=γ.blk (ρ j))):=by
  intro j x hx;obtain⟨hj,hr⟩:=RL fA (aY.1 hx).1;have nC:j<cg.length:=G3;refine⟨cg[j],by simp[nC],?_⟩;rcases nB j cg[j] (by simp[nC]) with hg|this
  ·exact .inl hg
  ·right;refine⟨?_,?_⟩
   ·have cV:σ.aa[bA σ.aa.length aq j]?=some x:=hx;rw[hr,this]at cV;simpa using cV.symm
   ·show(if j<aq.length then γ.blk (aq.getD j 0) else none)=γ.blk (bA σ.aa.length aq j);rw[if_pos hj,hr]
 have jU:∀ b,γ.Z b->γc.Z b:=λb hb=>.inl hb;have we:∀ j,Live cg j->Live σ.aa (aq.getD j 0)/\j<aq.length/\kp (aq.getD j 0)/\∃ o,cg[j]?=some o/\σ.aa[aq.getD j 0]?=some (bU ρ o):=by
  rintro j⟨o,ho,hg⟩;have hj:=(aY.1 ho).1;rcases nB j o ho with h'|h'
  ·exact absurd h' hg
  ·exact⟨⟨_,h',λe=>hg (Ea.1 e)⟩,G3,⟨j,G3,rfl,by rw[ho];simpa using hg⟩,o,ho,h'⟩
 have pN:∀ j,j<aq.length->γc.blk j=γ.blk (aq.getD j 0):=λj hj=>by show(if j<aq.length then _ else _)=_;rw[if_pos hj]
 have Lb:bC ⟨e,cg⟩ γc:=by
  refine⟨λk=>?_,?_,?_,?_,?_,λg=>Cd (h.gl g) λb hb=>⟨jU b hb,rfl⟩⟩
  ·rcases he k with h0|⟨d,hd,hr⟩
   ·show aA cg γc.w γc.Z γc.blk (e k) _;rw[h0];exact .undef _
   ·exact hd.rel h jU rfl (λhs id b o cap cT hl hb=>.inr ⟨hs,id,o,cap,cT,hl,hb⟩) xK _ hr
  ·intro j o ho;by_cases bE:o=.gone
   ·subst bE;trivial
   obtain⟨_,Ee,_,o',cy,ad9⟩:=we j ⟨o,ho,bE⟩;have:o=o':=by
    have h1:cg[j]?=some o:=ho;rw[cy]at h1;simpa using h1.symm
   subst this;have a8:=h.fF _ _ ad9;have hb:=pN j Ee;cases o with
   |gone=>trivial
   |var cells =>
    obtain⟨b,cap,cur,t,h1,h2,h3,h4⟩:=a8;exact⟨b,cap,cur,t,hb.trans h1,h2,by simpa using h3,λc v hv=>(h4 c (br ρ v) (by simp only[b6,hv];rfl)).down jU xK v rfl⟩
   |mp ag L =>
    obtain⟨b,f,h1,h2,h3,h4⟩:=a8;refine⟨b,f,hb.trans h1,?_,λp hp=>h3 (p.1,br ρ p.2) (G5 (f:=λp:List Int×AV=>(p.1,br ρ p.2)) hp),λj p hp=>(h4 j (p.1,br ρ p.2) (by simp only[b6,hp];rfl)).down jU xK p.2 rfl⟩;rw[Le,eO]at h2;exact h2
   |arr sz rows =>
    obtain⟨h0,hr,a8⟩:=a8;refine⟨h0,λrow bj=>by simpa using hr (row.map (br ρ)) (G5 bj),?_⟩;rcases a8 with⟨h1,h2⟩|⟨b,o,cap,cur,t,h1,h2,h3,h4,h5,h6⟩
    ·exact .inl ⟨hb.trans h1,by simpa using h2⟩
    ·refine .inr ⟨b,o,cap,cur,t,hb.trans h1,h2,h3,by simpa using h4,h5,λr c v hv=>(h6 r c (br ρ v) ?_).down jU xK v rfl⟩;simp only[cellAt,b6]at hv ⊢;cases cB:rows[r]? with
     |none=>simp[cB]at hv
     |some row=>simp[cB]at hv ⊢;exact⟨v,hv,rfl⟩
  ·intro i j b o c o' c' hi hj im iT;obtain⟨h1,h2,_⟩:=we i hi;obtain⟨h3,h4,_⟩:=we j hj;exact RM b7 h2 h4 (h.inj _ _ b o c o' c' h1 h3 (pN i h2▸im) (pN j h4▸iT))
  ·rintro b ⟨i,o,c,hi,hb⟩ hz;obtain⟨h1,h2,h3,_⟩:=we i hi;rw[pN i h2]at hb;rcases hz with hz|⟨_,id,o',cap',cT,hl,cW⟩
   ·exact h.nz b ⟨_,o,c,h1,hb⟩ hz
   ·have:=h.inj _ _ b o c o' cap' h1 hl hb cW;exact cT (this▸h3)
  ·rintro b (hb|⟨_,id,o,cap,_,hl,hb⟩)
   ·exact h.jm b hb
   ·exact h.blt hl hb
 refine⟨γc,rfl,rfl,Lb,λi hi=>pN i G3,jU,?_,?_⟩
 ·rintro b (hb|⟨_,id,o,cap,_,hl,hb⟩)
  ·exact .inl hb
  ·exact .inr ⟨id,o,cap,hl,hb⟩
 ·intro i hi;obtain⟨h1,h2,_,h4⟩:=we i hi;exact⟨h1,h4⟩
def Ob.aea{ρ:Nat->Nat}{x o:Ob}(h:x.fj (bU ρ o)):x.fj o:=by
 cases x<;>cases o<;>simp[Ob.fj,bU]at h ⊢<;>exact h
def Fr.select{os:List Ob}{γ0 γ aP:Cx}{σ:St}(hf:Fr os γ0 σ.aa γ){aq:List Nat}{cg:List Ob}(hn:os.length<=aq.length)(bY:cg.length=aq.length)(cT:∀ i,i<os.length->aq.getD i 0=i)(hw:aP.w=γ.w)(h:(∀ i,i<cg.length->aP.blk i=γ.blk (aq.getD i 0))/\(∀ b,γ.Z b->aP.Z b)/\(∀ b,aP.Z b->γ.Z b\/qw σ.aa γ.blk b) /\
   ∀ i,Live cg i->Live σ.aa (aq.getD i 0)/\∃ o,cg[i]?=some o/\σ.aa[aq.getD i 0]?=some (bU (bA σ.aa.length aq) o)):Fr os γ0 cg aP:=by
 obtain⟨h1,h2,h3,h4⟩:=h;refine⟨by rw[hw];exact hf.nt,by rw[hw];exact hf.tape,by rw[hw];exact hf.output,by rw[hw];exact hf.size,by rw[hw];exact hf.aH,λb hb=>h2 b (hf.z0 b hb),?_,?_,G3,?_,by rw[hw];exact hf.drawn⟩
 ·intro b hb;rcases h3 b hb with h|h
  ·exact hf.z1 b h
  ·rcases hf.own b h with h|h
   ·exact .inr (.inl h)
   ·exact .inr (.inr h)
 ·rintro b ⟨i,o,c,hi,hb⟩;have bx:=hi.lt;rw[h1 i bx]at hb;exact hf.own b ⟨_,o,c,(h4 i hi).1,hb⟩
 ·intro i hi hl;obtain⟨h5,o,ho,cy⟩:=h4 i hl;rw[cT i hi]at h5 cy;obtain⟨h6,x,x',hx,cV,hk⟩:=hf.lk i hi h5;refine⟨by rw[h1 i hl.lt,cT i hi];exact h6,x,o,hx,ho,?_⟩;rw[cy]at cV;simp only[dD.injEq]at cV;rw[<- cV]at hk;exact Ob.aea hk
def gP(N:Nat)(os:List Ob)(γ0:Cx)(σ:St)(a:Act)(w:World):Prop :=
 a.defers=[]/\a.tmps.size=N/\∃ γ,γ.w=w/\γ.tmps=a.tmps/\bC σ γ/\Fr os γ0 σ.aa γ
def W(P:Program)(N n0:Nat)(c:Code)(Q:Exit->St->Prop)(σ:St):Prop :=
 ∀ (os:List Ob) (γ0:Cx) (a:Act) (w:World),os.length=n0->gP N os γ0 σ a w->c.wp P (λe a' w'=>∃ σ',Q e σ'/\gP N os γ0 σ' a' w') a w
def sI(P:Program)(g:FuncId)(args:List AV)(dst:Option Tmp)(K:St->Prop)(σ:St):Prop:=HD P g args σ λv σ'=>K (σ'.put dst v)
def Hk(P:Program)(t:TypeId)(m:String):Option (FuncId×Option TypeId) :=
 match P.info? t with
 |none=>none
 |some i =>
  match i.methods.find? (·.name==m) with
  |none=>none
  |some r =>
   match r.path.isEmpty,r.func,P.underlying t with
   |true,some (g,pr),some (.pointer e)=>some (g,if pr then none else some e)
   |_,_,_=>none
def ql(P:Program)(σ:St)(v:AV)(K:FuncId->AV->Prop):Option (FuncId×Option TypeId)->Prop
 |some (g,none)=>K g v
 |some (g,some e) =>
  (ty P e).kind≠99 /\
  match v with
  |.ptr id r c =>
   match rowOf σ id r with
   |some row=>nx (ty P e) row c λx=>K g x
   |none=>False
  |_=>False
 |none=>False
def aW(P:Program)(o:Oper)(σ:St)(K:St->Prop):Prop :=
 match o.op with
 |.call { callee:=.value f,args,.. } =>
  match ev σ f with
  |.fn g a6=>sI P g (args.toList.map (ev σ)++a6) o.dst K σ
  |_=>False
 |.call { callee:=.invoke r m,args,.. } =>
  match ev σ r with
  |.ja t v=>ql P σ v (λg x=>sI P g (x::args.toList.map (ev σ)) o.dst K σ) (Hk P t m)
  |_=>False
 |_=>cE P o σ K
def pO(P:Program)(o:Oper)(K:St->Prop)(b want:Bool)(σ:St):Prop:=(b=want->aW P o σ K)/\(b≠want->K (σ.put o.dst (.lit (.tuple #[]))))
def opsL(P:Program)(ops:Array Oper):List Oper->(St->Prop)->St->Prop
 |[],K,σ=>K σ
 |o::r,K,σ =>
  match o.guard with
  |none=>aW P o σ (opsL P ops r K)
  |some (j,want) =>
   match (ops[j]?).bind (·.dst) with
   |none=>False
   |some d =>
    match σ.env d with
    |.lit (.bool b)=>pO P o (opsL P ops r K) b want σ
    |.lit (.tuple vs)=>vs = #[]/\opsL P ops r K (σ.put o.dst (.lit (.tuple #[])))
    |_=>False
def uO(a:Act)(d:Option Tmp)(v:Value):(a.put d v).tmps.size=a.tmps.size:=by cases d<;>simp[Act.put]
def put_defers(a:Act)(d:Option Tmp)(v:Value):(a.put d v).defers=a.defers:=by cases d<;>rfl
def aeb(xt:TypeId)(a:Addr)(x y:String):Builtin.ssaWrapNilChk_ #[xt] xt #[.pointer (some a),strVal x,strVal y]=pure (.pointer (some a)):=rfl
def RU{w:World}{t:TypeId}{i:TypeInfo}(h:P.info? t=some i):(typeInfo t).run P w=.ok i w:=by
 simp[typeInfo,h]
def ext1(x:Value)(A:Array Value):(#[x]++A).extract 1 (#[x]++A).size=A:=by
 apply Array.ext';simp only[Array.toList_extract,List.extract,BR,Array.size_append];simp[List.take_of_length_le]
def aec{σ:St}{γ:Cx}(hs:bC σ γ){t:TypeId}{m:String}{v:AV}{cv:Value}(hv:aA σ.aa γ.w γ.Z γ.blk v cv){K:FuncId->AV->Prop}(h:ql P σ v K (Hk P t m)):
  ∃ g x cx,(Go.method (P.types.size+Made.depth) t cv m).run P γ.w=.ok (g,cx) γ.w/\aA σ.aa γ.w γ.Z γ.blk x cx/\K g x:=by
 obtain⟨fu,Av⟩:∃fu,P.types.size+Made.depth=fu+1:=Nat.exists_eq_succ_of_ne_zero (by unfold Made.depth;omega);rw[Av];unfold Go.method;unfold Hk at h;cases hi:P.info? t with
 |none=>simp[hi,ql]at h
 |some i =>
  simp only[hi]at h;cases hf:i.methods.find? (·.name==m) with
  |none=>simp[hf,ql]at h
  |some r =>
   simp only[hf]at h;split at h
   ·rename_i g pr e hp hr hu;have Eh:r.path = #[]:=Array.isEmpty_iff.1 hp;cases pr with
    |true =>
     simp only[if_pos,ql]at h;refine⟨g,v,cv,?_,hv,h⟩;simp[RU hi,hf,Eh,follow,hr,receiverAt,run_underlying hu,Place.get]
    |false =>
     simp only[if_neg,Bool.false_eq_true,not_false_eq_true,ql]at h;obtain⟨hk,h⟩:=h;cases v with
     |ptr id rr c =>
      simp only at h;cases bj:rowOf σ id rr with
      |none=>simp[bj]at h
      |some row =>
       simp only[bj]at h;obtain⟨x,cx,h1,h2,h3⟩:=Ll hs hk hv bj h;refine⟨g,x,cx,?_,h2,h3⟩;obtain⟨b,base,cap,cur,tt,o,rfl,_⟩:=HG hs hv bj;simp only[Instr.loadAt,Instr.sureAddr,Sem.run_bind,Sem.run_pure,Result.andThen_ok]at h1;simp[RU hi,hf,Eh,follow,hr,receiverAt,run_underlying hu,Place.get,aeb,asAddr,h1]
     |_=>exact h.elim
   ·exact h.elim
def xD{N:Nat}{os:List Ob}{γ0:Cx}{o:Oper}{σ:St}{K:St->Prop}(h:aW P o σ K){a:Act}{w:World}(aw:gP N os γ0 σ a w)(hd:∀ d,o.dst=some d->d<N){Q:Exit->Act->World->Prop}{next:Act->World->Prop}(hn:∀ σ' a' w',K σ'->gP N os γ0 σ' a' w'->next a' w'):o.wp P a w next Q:=by
 obtain⟨iP,bg,γ,rfl,ha,hs,hf⟩:=aw;have uX:∀ d,o.dst=some d->d<a.tmps.size:=λd h=>by rw[bg];exact hd d h
 have aed:cE P o σ K->o.wp P a γ.w next Q:=by
  intro h;obtain⟨n,x,w',σ',aP,hr,Lm,hK,iB,gn,lW,kD⟩:=aee h hs ha uX;unfold Oper.wp;rw[hr];have dG:gP N os γ0 σ' (a.put o.dst x) w':=⟨by rw[put_defers];exact iP,by rw[uO];exact bg,aP,lW,kD,iB,hf.trans gn⟩;rcases Lm with rfl|⟨rfl,rfl⟩
  ·exact hn _ _ _ hK dG
  ·exact hn _ _ _ hK dG
 unfold aW at h;split at h
 ·rename_i f args cQ cU;split at h
  ·rename_i g a6 he;have dV:=tK hs ha f;rw[he]at dV;obtain⟨bz,bu,gZ,ln⟩:=dV.RV;have oQ:∀ (j:Nat) d,(args.toList.map (ev σ)++a6)[j]?=some d->aA σ.aa γ.w γ.Z γ.blk d (((args.map a.eval)++bz).getD j Go.undef):=by
    intro j d hj;simp only[fU];rcases fN j args.size with bx|og
    ·rw[dg (by simpa using bx)]at hj;rw[G6 (by simpa using bx)];simp only[b6,DK,PR]at hj ⊢;cases hx:args[j]? with
     |none=>simp[hx]at hj
     |some y=>simp[hx]at hj ⊢;subst hj;exact tK hs ha y
    ·rw[fO (by simpa using og)]at hj;rw[Array.getElem?_append_right (by simpa using og)];simp only[eO,Array.length_toList,Array.size_map]at hj ⊢;have:=ln _ d hj;simpa [fU] using this
   unfold sI at h;have kJ:=RT hs (argv:=(args.map a.eval)++bz) (by simp[gZ]) oQ h;obtain⟨aq,snap,dU,cg,res,dt,⟨⟨fn,xL,sM,yZ⟩,_⟩,_⟩:=h;unfold Oper.wp;have hr:(execOp a.eval o).run P γ.w=.ok (.enter g ((args.map a.eval)++bz)) γ.w:=by
    have eF : ¬ fn.name = "runtime.NumGoroutine" := by simpa using sM
    have nE:¬ fn.body=none:=by intro e;rw[e]at yZ;simp at yZ
    simp[execOp,cU,resolve,bu,Deferred.ofValue,invoke,callFunc,xL,eF,nE]
   rw[hr];show Calls P g _ _ _;refine kJ.mono ?_;rintro e w'⟨cv,v,σ',aP,rfl,rfl,kD,iB,gn,hv,hK,tL⟩;refine hn _ _ _ hK ⟨by rw[put_defers];exact iP,by rw[uO];exact bg,{ aP with tmps:=(a.put o.dst cv).tmps },rfl,rfl,sJ iB (by rw[kD,ha]) uX hv,?_⟩;rw[rB];exact(hf.trans gn).put _
  ·exact h.elim
 ·rename_i r m args cQ cU;split at h
  ·rename_i t v he;have dV:=tK hs ha r;rw[he]at dV;obtain⟨HH,bu,ln⟩:=dV.RW;obtain⟨g,x,cx,hm,hx,h⟩:=aec hs ln h;have oQ:∀ (j:Nat) d,(x::args.toList.map (ev σ))[j]?=some d->aA σ.aa γ.w γ.Z γ.blk d ((#[cx]++args.map a.eval).getD j Go.undef):=by
    intro j d hj;simp only[fU];cases j with
    |zero =>
     simp only[vP,dD.injEq]at hj;subst hj;rw[G6 G9];simpa using hx
    |succ j =>
     simp only[vQ,b6,DK]at hj;rw[Array.getElem?_append_right G9];simp only[List.size_toArray,eu,List.length_nil,Nat.zero_add,Nat.add_sub_cancel,PR];cases hy:args[j]? with
     |none=>simp[hy]at hj
     |some y=>simp[hy]at hj ⊢;subst hj;exact tK hs ha y
   unfold sI at h;have kJ:=RT hs (argv:=#[cx]++args.map a.eval) PX oQ h;obtain⟨aq,snap,dU,cg,res,dt,⟨⟨fn,xL,sM,yZ⟩,_⟩,_⟩:=h;unfold Oper.wp;have hr:(execOp a.eval o).run P γ.w=.ok (.enter g (#[cx]++args.map a.eval)) γ.w:=by
    have eF : ¬ fn.name = "runtime.NumGoroutine" := by simpa using sM
    have nE:¬ fn.body=none:=by intro e;rw[e]at yZ;simp at yZ
    have e0:(#[Value.iface t HH]++args.map a.eval)[0]?=some (.iface t HH):=by rw[G6 G9];simp
    have e1:=ext1 (.iface t HH) (args.map a.eval);have e2:(callMethod (.iface t HH) m (args.map a.eval)).run P γ.w=.ok (.enter g (#[cx]++args.map a.eval)) γ.w:=by
     unfold callMethod;simp only[Sem.run_bind,run_program,Result.andThen_ok,hm];simp[callFunc,xL,eF,nE]
    simp only[execOp,cU,resolve,bu,pure_bind,invoke,e0,e1];exact e2
   rw[hr];show Calls P g _ _ _;refine kJ.mono ?_;rintro e w'⟨cv,v,σ',aP,rfl,rfl,kD,iB,gn,hv,hK,tL⟩;refine hn _ _ _ hK ⟨by rw[put_defers];exact iP,by rw[uO];exact bg,{ aP with tmps:=(a.put o.dst cv).tmps },rfl,rfl,sJ iB (by rw[kD,ha]) uX hv,?_⟩;rw[rB];exact(hf.trans gn).put _
  ·exact h.elim
 ·exact aed h
def Ei{N:Nat}{os:List Ob}{γ0:Cx}{ops:Array Oper}(hd:∀ o∈ops.toList,∀ d,o.dst=some d->d<N){K:St->Prop}{Q:Exit->Act->World->Prop}(hQ:∀ σ' a' w',K σ'->gP N os γ0 σ' a' w'->Q .normal a' w'):∀ (l:List Oper) (i:Nat) (σ:St) (a:Act) (w:World),ops.toList.drop i=l->opsL P ops l K σ->gP N os γ0 σ a w ->
   wpOps P ops Q (List.range' i l.length) a w
 |[],i,σ,a,w,_,h,aw=>by simpa [wpOps] using hQ _ _ _ h aw
 |o::r,i,σ,a,w,hl,h,aw=>by
  have hi:ops[i]?=some o:=by
   have:(ops.toList.drop i)[0]?=some o:=by rw[hl];rfl
   simpa using this
  have hr:ops.toList.drop (i+1)=r:=by
   have:=congrArg List.tail hl;simpa [List.tail_drop] using this
  have bJ:o∈ops.toList:=gY (by simpa using hi);rw[eu,List.range'_succ,wpOps_cons];unfold wpOp;simp only[hi];unfold opsL at h;cases hg:o.guard with
  |none =>
   simp only[hg]at h;have hw:Region.wanted o (yielded ops a.tmps)=true:=by simp[Region.wanted,hg]
   rw[if_pos hw];left;exact xD h aw (hd o bJ) (λσ' a' w' hK dG=>Ei hd hQ r (i+1) σ' a' w' hr hK dG)
  |some jw =>
   obtain⟨j,want⟩:=jw;simp only[hg]at h;cases eZ:(ops[j]?).bind (·.dst) with
   |none=>simp[eZ]at h
   |some d =>
    simp only[eZ]at h;split at h
    ·rename_i b he;obtain⟨iP,bg,γ,rfl,ha,hs,hf⟩:=aw;have kF:=hs.au d;rw[he,ha]at kF;have hv:=kF.dm;have hy:yielded ops a.tmps j=some b:=by
      unfold yielded;rw[eZ];have:a.tmps[d]?=some (.bool b):=by
       rw[fU]at hv;cases hx:a.tmps[d]? with
       |none=>rw[hx]at hv;simp[Go.undef]at hv
       |some y=>rw[hx]at hv;simp at hv;rw[hv]
      simp[this]
     by_cases ik:b=want
     ·have hw:Region.wanted o (yielded ops a.tmps)=true:=by simp[Region.wanted,hg,hy,ik]
      rw[if_pos hw];left;exact xD (h.1 ik) ⟨iP,bg,γ,rfl,ha,hs,hf⟩ (hd o bJ) (λσ' a' w' hK dG=>Ei hd hQ r (i+1) σ' a' w' hr hK dG)
     ·have hw:Region.wanted o (yielded ops a.tmps)=false:=by simp[Region.wanted,hg,hy,ik]
      rw[if_neg (by rw[hw];simp)];refine Ei hd hQ r (i+1) _ _ _ hr (h.2 ik) ⟨by rw[put_defers];exact iP,by rw[uO];exact bg,{ γ with tmps:=(a.put o.dst Go.undef).tmps },rfl,rfl,sJ hs ha (λd h=>by rw[bg];exact hd o bJ d h) (.lit _),?_⟩;rw[rB];exact hf.put _
    ·rename_i vs he;obtain⟨iP,bg,γ,rfl,ha,hs,hf⟩:=aw;have kF:=hs.au d;rw[he,ha]at kF;have hv:=kF.dm;have hy:yielded ops a.tmps j=none:=by
      unfold yielded;rw[eZ];rw[fU]at hv;cases hx:a.tmps[d]? with
      |none=>simp[hx]
      |some y=>rw[hx]at hv;simp at hv;subst hv;simp[hx]
     have hw:Region.wanted o (yielded ops a.tmps)=false:=by simp[Region.wanted,hg,hy]
     rw[if_neg (by rw[hw];simp)];refine Ei hd hQ r (i+1) _ _ _ hr h.2 ⟨by rw[put_defers];exact iP,by rw[uO];exact bg,{ γ with tmps:=(a.put o.dst Go.undef).tmps },rfl,rfl,sJ hs ha (λd h=>by rw[bg];exact hd o bJ d h) (.lit _),?_⟩;rw[rB];exact hf.put _
    ·exact h.elim
end Go.Am
namespace Go.Am
variable {P:Program} {N n0:Nat} {Q:Exit->St->Prop} {σ:St}
def RX{c:Code}{Q':Exit->St->Prop}(h:W P N n0 c Q σ)(hq:∀ e s,Q e s->Q' e s):W P N n0 c Q' σ :=
 λos γ0 a w hn aw=>wp_mono (h os γ0 a w hn aw) (λ_ _ _ ⟨σ',h1,h2⟩=>⟨σ',hq _ _ h1,h2⟩)
def Ej(h:Q .normal σ):W P N n0 .skip Q σ:=λ_ _ _ _ _ aw=>wp_skip ⟨σ,h,aw⟩
def aef{l:Nat}(h:Q .normal σ):W P N n0 (.label l) Q σ:=λ_ _ _ _ _ aw=>wp_label ⟨σ,h,aw⟩
def aeg{id:Nat}(h:Q (.exit id) σ):W P N n0 (.exit id) Q σ:=λ_ _ _ _ _ aw=>wp_exit ⟨σ,h,aw⟩
def aeh(h:Q .ret σ):W P N n0 .ret Q σ:=λ_ _ _ _ _ aw=>wp_ret ⟨σ,h,aw⟩
def aei(P:Program)(N n0:Nat)(y:Code)(Q:Exit->St->Prop):Exit->St->Prop
 |.normal,s=>W P N n0 y Q s
 |e,s=>Q e s
def KV{x y:Code}(h:W P N n0 x (aei P N n0 y Q) σ):W P N n0 (.seq x y) Q σ:=by
 intro os γ0 a w hn aw;refine wp_seq (wp_mono (h os γ0 a w hn aw) ?_);rintro e a' w'⟨σ',h1,h2⟩;cases e with
 |normal=>exact h1 os γ0 a' w' hn h2
 |exit id=>exact⟨σ',h1,h2⟩
 |goto l=>exact⟨σ',h1,h2⟩
 |ret=>exact⟨σ',h1,h2⟩
 |panic c=>exact⟨σ',h1,h2⟩
 |outgrown=>exact⟨σ',h1,h2⟩
def Ek{c:Operand}{x y:Code}{t:Bool}(hc:ev σ c=.lit (.bool t))(ht:t=true->W P N n0 x Q σ)(hf:t=false->W P N n0 y Q σ):W P N n0 (.cond c x y) Q σ:=by
 intro os γ0 a w hn aw;have bu:a.eval c=.bool t:=by
  obtain⟨_,_,γ,rfl,ha,hs,_⟩:=aw;have:=tK hs ha c;rw[hc]at this;exact this.dm
 exact wp_cond_split bu (λh=>ht h os γ0 a w hn aw) (λh=>hf h os γ0 a w hn aw)
def Hw(id:Nat)(Q:Exit->St->Prop):Exit->St->Prop
 |.exit pL,s=>if pL=id then Q .normal s else Q (.exit pL) s
 |e,s=>Q e s
def adW{id:Nat}{c:Code}(h:W P N n0 c (Hw id Q) σ):W P N n0 (.block id c) Q σ:=by
 intro os γ0 a w hn aw;refine wp_block (wp_mono (h os γ0 a w hn aw) ?_);rintro e a' w'⟨σ',h1,h2⟩;cases e with
 |exit pL =>
  simp only[Hw]at h1;simp only[Exit.inBlock];split
  ·rename_i he;rw[if_pos he]at h1;exact⟨σ',h1,h2⟩
  ·rename_i he;rw[if_neg he]at h1;exact⟨σ',h1,h2⟩
 |normal=>exact⟨σ',h1,h2⟩
 |goto l=>exact⟨σ',h1,h2⟩
 |ret=>exact⟨σ',h1,h2⟩
 |panic c=>exact⟨σ',h1,h2⟩
 |outgrown=>exact⟨σ',h1,h2⟩
def gH(N:Nat)(ops:Array Oper):Bool:=ops.toList.all λo=>match o.dst with|some d=>decide (d<N)|none=>true
def rC{ops:Array Oper}(h:gH N ops=true):∀ o∈ops.toList,∀ d,o.dst=some d->d<N:=by
 intro o ho d hd;unfold gH at h;rw[gV]at h;have:=h o ho;simp[hd]at this;exact this
def RG{id:Nat}{ops:Array Oper}(hd:gH N ops=true)(h:opsL P ops ops.toList (Q .normal) σ):W P N n0 (.region id ops false) Q σ:=by
 intro os γ0 a w _ aw;refine wp_region ?_;have:=Ei (P:=P) (N:=N) (os:=os) (γ0:=γ0) (ops:=ops) (rC hd) (K:=Q .normal) (Q:=λe a' w'=>∃ σ',Q e σ'/\gP N os γ0 σ' a' w') (λσ' a' w' hK dG=>⟨σ',hK,dG⟩)
  ops.toList 0 σ a w rfl h aw
 rw[List.range_eq_range'];simpa using this
def gP.drawn{os:List Ob}{γ0:Cx}{a:Act}{w:World}(h:gP N os γ0 σ a w):gP N os γ0 σ a { w with drawn:=w.drawn+1 }:=by
 obtain⟨h1,h2,γ,rfl,h3,h4,h5⟩:=h;exact⟨h1,h2,{ γ with w:={ γ.w with drawn:=γ.w.drawn+1 } },rfl,h3,h4.Ln rfl,h5.Ln rfl rfl rfl rfl⟩
def ay(n0:Nat)(σ σ':St):Prop:=∀ (os:List Ob) (γ0 γ:Cx),os.length=n0->bC σ γ->Fr os γ0 σ.aa γ->∃ aP,aP.w=γ.w/\aP.tmps=γ.tmps/\bC σ' aP/\Fr os γ0 σ'.aa aP
def bD{c:Code}{σ':St}(h:ay n0 σ σ')(hw:W P N n0 c Q σ'):W P N n0 c Q σ:=by
 intro os γ0 a w hn aw;obtain⟨h1,h2,γ,rfl,h3,h4,h5⟩:=aw;obtain⟨aP,e1,e2,e3,e4⟩:=h os γ0 γ hn h4 h5;exact hw os γ0 a γ.w hn ⟨h1,h2,aP,e1,e2.trans h3,e3,e4⟩
def ay.forget{e:Nat->AV}(h:∀ k,e k=.undef\/e k=σ.env k):ay n0 σ ⟨e,σ.aa⟩:=by
 intro os γ0 γ _ hs hf;refine⟨γ,rfl,rfl,⟨λk=>?_,hs.fF,hs.inj,hs.nz,hs.jm,hs.gl⟩,hf⟩;rcases h k with h|h
 ·show aA _ _ _ _ (e k) _;rw[h];exact .undef _
 ·show aA _ _ _ _ (e k) _;rw[h];exact hs.au k
def ay.select(aq:List Nat)(snap:Bool)(cg:List Ob)(e:Nat->AV)(b7:aq.Nodup)(bY:cg.length=aq.length)(nB:∀ (j:Nat) o,cg[j]?=some o->o=.gone\/σ.aa[aq.getD j 0]?=some (bU (bA σ.aa.length aq) o))(fA:∀ i∈aq,i<σ.aa.length)(hn:n0<=aq.length)(cT:∀ i,i<n0->aq.getD i 0=i)(he:∀ k,e k=.undef\/aI σ (λid=>∃ j,j<aq.length/\aq.getD j 0=id/\cg[j]?≠some .gone) (bA σ.aa.length aq) snap (e k) (σ.env k)):ay n0 σ ⟨e,cg⟩:=by
 intro os γ0 γ xM hs hf;obtain⟨aP,h1,h2,h3,h4⟩:=hs.select aq snap cg b7 bY nB fA e γ.tmps (λk=>(he k).imp id λh=>⟨_,h,hs.au k⟩);exact⟨aP,h1,h2,h3,hf.select G3 bY (λi hi=>cT i G3) h1 h4⟩
def ay.trans{σ1 σ2:St}(h:ay n0 σ σ1)(k:ay n0 σ1 σ2):ay n0 σ σ2:=by
 intro os γ0 γ xM hs hf;obtain⟨γ1,a1,a2,a3,a4⟩:=h os γ0 γ xM hs hf;obtain⟨Lo,b1,b2,b3,b4⟩:=k os γ0 γ1 xM a3 a4;exact⟨Lo,b1.trans a1,b2.trans a2,b3,b4⟩
def ay.nil(d sz:Nat)(h:σ.env d=.lit (.slice none 0 0))(h0:0<sz):ay n0 σ ⟨jT σ.env d (.ref σ.aa.length sz 0 0),σ.aa++[.arr sz []]⟩:=by
 intro os γ0 γ _ hs hf;have hp:=hs.Aw h0;refine⟨{ γ with blk:=dM γ.blk σ.aa.length none },rfl,rfl,⟨λk=>?_,hp.fF,hp.inj,hp.nz,hp.jm,hp.gl⟩,hf.trans (Fr.Aw _ _ _)⟩;simp only[jT];by_cases hk:k=d
 ·subst hk;rw[if_pos rfl];have:=hs.au k;rw[h]at this;rw[this.dm];exact .nA _ _ (List.getElem?_concat_length ..) (by simp[dM])
 ·rw[if_neg hk];exact hp.au k
def eQ(σ:St)(P:Program):List ResultVar->(List AV->Prop)->Prop
 |[],K=>K []
 |.tmp t::r,K=>eQ σ P r λvs=>K (σ.env t::vs)
 |.cell a t::r,K =>
  (ty P t).kind≠99 /\
  match σ.env a with
  |.ptr id rr c =>
   match rowOf σ id rr with
   |some row=>nx (ty P t) row c λv=>eQ σ P r λvs=>K (v::vs)
   |none=>False
  |_=>False
def eG:List AV->AV
 |[v]=>v
 |vs=>.bH vs
def HI{γ:Cx}(hs:bC σ γ):∀ (rs:List ResultVar) (K:List AV->Prop),eQ σ P rs K ->
  ∃ vs bz,K vs/\(rs.mapM λ(r:ResultVar)=>match r with|.tmp t=>(pure (γ.tmps.getD t Go.undef):Sem Value)|.cell a t=>do loadVar t (← asAddr (γ.tmps.getD a Go.undef))).run P γ.w=.ok bz γ.w /\
   bz.length=vs.length/\vs.length=rs.length/\∀ (j:Nat) v,vs[j]?=some v->aA σ.aa γ.w γ.Z γ.blk v (bz.getD j Go.undef)
 |[],K,h=>⟨[],[],h,G9,rfl,rfl,G9⟩
 |.tmp t::r,K,h=>by
  obtain⟨vs,bz,h1,h2,h3,h4,h5⟩:=HI hs r _ h;refine⟨_,γ.tmps.getD t Go.undef::bz,h1,?_,by simp[h3],by simp[h4],?_⟩
  ·simp only[List.mapM_cons,Sem.run_bind,Sem.run_pure,Result.andThen_ok,h2]
  ·intro j v hj;cases j with
   |zero=>simp at hj;subst hj;simpa using hs.au t
   |succ j=>simpa using h5 j v (by simpa using hj)
 |.cell a t::r,K,h=>by
  obtain⟨hk,h⟩:=h;split at h
  ·rename_i id rr c he;have hv:=hs.au a;rw[he]at hv;split at h
   ·rename_i row bj;obtain⟨v,cv,l1,l2,l3⟩:=Ll hs hk hv bj h;obtain⟨vs,bz,h1,h2,h3,h4,h5⟩:=HI hs r _ l3;obtain⟨b,base,cap,cur,tt,o,hp,_⟩:=HG hs hv bj;have fP:(do loadVar t (← asAddr (γ.tmps.getD a Go.undef)):Sem Value).run P γ.w=.ok cv γ.w:=by
     rw[hp]at l1 ⊢;simp only[Instr.loadAt,Instr.sureAddr,Sem.run_bind,Sem.run_pure,Result.andThen_ok]at l1;simp only[asAddr,Sem.run_bind,Sem.run_pure,Result.andThen_ok];exact l1
    refine⟨_,cv::bz,h1,?_,by simp[h3],by simp[h4],?_⟩
    ·simp only[List.mapM_cons];rw[Sem.run_bind,fP];simp only[Result.andThen_ok,Sem.run_bind,h2,Sem.run_pure]
    ·intro j x hj;cases j with
     |zero=>simp at hj;subst hj;simpa using l2
     |succ j=>simpa using h5 j x (by simpa using hj)
   ·exact h.elim
  ·exact h.elim
def pH(n0:Nat)(σ:St)(v res:AV)(bI:List Ob):Prop :=
 ∃ (aq:List Nat) (snap:Bool),aq.Nodup/\bI.length=aq.length/\(∀ (j:Nat) o,bI[j]?=some o->o=.gone\/σ.aa[aq.getD j 0]?=some (bU (bA σ.aa.length aq) o))/\(∀ i∈aq,i<σ.aa.length) /\
  n0<=aq.length/\(∀ i,i<n0->aq.getD i 0=i)/\aI σ (λid=>∃ j,j<aq.length/\aq.getD j 0=id/\bI[j]?≠some .gone) (bA σ.aa.length aq) snap res v
def Cg(P:Program)(n0:Nat)(rs:List ResultVar)(res:AV)(bI:List Ob):Exit->St->Prop
 |.normal,s=>eQ s P rs λvs=>pH n0 s (eG vs) res bI
 |.ret,s=>eQ s P rs λvs=>pH n0 s (eG vs) res bI
 |_,_=>False
def an.Lp {f : FuncId} {fn : Func} {c : Code} {args : List AV} {aa : List Ob} {res : AV} {bI : List Ob} (hf : P.funcs[f]? = some fn) (hb : fn.body = some c) (sM : (fn.name == "runtime.NumGoroutine") = false)
  (hN:args.length<=fn.ntmps) (h:W P fn.ntmps aa.length c (Cg P aa.length fn.results.toList res bI) ⟨λk=>args.getD k .undef,aa⟩):an P f args aa res bI:=by
 refine⟨⟨fn,hf,sM,by rw[hb];rfl⟩,?_⟩;intro γ bg hs;refine calls_of_wp hf hb ?_
 let tm:=γ.tmps++Array.replicate (fn.ntmps-γ.tmps.size) Go.undef
 have aw:gP fn.ntmps aa γ ⟨λk=>args.getD k .undef,aa⟩ { tmps:=tm,defers:=[] } γ.w:=by
  refine⟨rfl,by simp[tm];omega,{ γ with tmps:=tm },rfl,rfl,⟨λk=>?_,hs.fF,hs.inj,hs.nz,hs.jm,hs.gl⟩,(Fr.refl _ _).put _⟩;rcases fN k args.length with hk|hk
  ·have:=hs.au k;have e:tm.getD k Go.undef=γ.tmps.getD k Go.undef:=by
    simp only[tm,fU];rw[G6 G3]
   show aA _ _ _ _ _ (tm.getD k Go.undef);rw[e];exact this
  ·have e:args.getD k AV.undef=.undef:=by simp[hk]
   show aA _ _ _ _ (args.getD k .undef) _;rw[e];exact .undef _
 refine wp_mono (h aa γ _ γ.w rfl aw) ?_;rintro e a' w'⟨σ',h1,iP,_,aP,rfl,ha,iB,gn⟩;have fin:∀ (K:List AV->Prop),eQ σ' P fn.results.toList K->(∀ vs,K vs->pH aa.length σ' (eG vs) res bI) ->
   a'.defers=[]/\∃ v,(results fn a'.tmps).run P aP.w=.ok v aP.w/\∃ cv jV,Ending.returned v=.returned cv/\jV.w=aP.w/\jV.tmps = #[cv]/\bC ⟨λk=>[res].getD k .undef,bI⟩ jV/\Fr aa γ bI jV:=by
  intro K hK Lr;obtain⟨vs,bz,k1,k2,k3,k4,k5⟩:=HI iB _ _ hK;obtain⟨aq,snap,r1,r2,r3,r4,r5,r6,r7⟩:=Lr vs k1;refine⟨iP,?_⟩;have fP :∃v,(results fn a'.tmps).run P aP.w=.ok v aP.w/\aA σ'.aa aP.w aP.Z aP.blk (eG vs) v:=by
   have hm:(fn.results.mapM λ(r:ResultVar)=>match r with|.tmp t=>(pure (a'.tmps.getD t Go.undef):Sem Value)|.cell a t=>do loadVar t (← asAddr (a'.tmps.getD a Go.undef))).run P aP.w=.ok bz.toArray aP.w:=by
    rw[Array.mapM_eq_mapM_toList,Sem.run_map,<- ha,k2];rfl
   have hr:(results fn a'.tmps).run P aP.w=.ok (if h:bz.toArray.size=1 then bz.toArray[0] else .tuple bz.toArray) aP.w:=by
    unfold results;rw[Sem.run_bind];exact congrArg (λr=>Result.andThen r λ(a:Array Value) w'=>(pure (if h:a.size=1 then a[0] else Value.tuple a):Sem Value).run P w') hm
   rw[hr]
   match vs,bz,k3,k5 with
   |[],[],_,k5=>exact⟨_,rfl,.bH _ _ rfl (λj x hj=>by simp at hj)⟩
   |[v],[cv],_,k5=>exact⟨cv,G9,by simpa [eG] using k5 0 v rfl⟩
   |v::v'::vs,cv::qy::bz,k3,k5 =>
    refine⟨.tuple (cv::qy::bz).toArray,G9,.bH _ _ (by simpa using k3) (λj x hj=>?_)⟩;have:=k5 j x hj;simpa [aG,fU] using this
  obtain⟨v,oW,mo⟩:=fP;obtain⟨jV,e1,e2,e3,e4⟩:=iB.select aq snap bI r1 r2 r3 r4 (λk=>[res].getD k .undef) #[v] (λk=>by
   cases k with
   |zero=>exact .inr ⟨_,r7,by simpa using mo⟩
   |succ k=>left;simp)
  exact⟨v,oW,v,jV,rfl,e1,e2,e3,gn.select r5 r2 r6 e1 e4⟩
 cases e with
 |normal=>exact fin _ h1 (λ_ h=>h)
 |ret=>exact fin _ h1 (λ_ h=>h)
 |exit id=>exact h1.elim
 |goto l=>exact h1.elim
 |panic c=>exact h1.elim
 |outgrown=>exact h1.elim
theorem an.aC {f:FuncId} {fn:Func} {c:Code} {args:List AV} {aa:List Ob} {res:AV} {bI:List Ob} (N k:Nat) (rs:List ResultVar) (hf:P.funcs[f]?=some fn) (h:W P N k c (Cg P k rs res bI) ⟨fun k=>args.getD k .undef,aa⟩) (hb:fn.body=some c:=by rfl) (sM:(fn.name=="runtime.NumGoroutine")=false:=by rfl) (hN:fn.ntmps=N:=by rfl) (xN:fn.results.toList=rs:=by rfl) (hk:aa.length=k:=by rfl) (hl:args.length<=N:=by simp):an P f args aa res bI:=by
 subst hN;subst xN;subst hk;exact an.Lp hf hb sM hl h
def W_k{x y:Code}(h:∀ Q':Exit->St->Prop,(∀ s,W P N n0 y Q s->Q' .normal s)->(∀ e s,e≠.normal->Q e s->Q' e s)->W P N n0 x Q' σ):W P N n0 (.seq x y) Q σ :=
 KV (h _ (λ_ h=>h) (λe s he hq=>by cases e<;>first|exact absurd rfl he|exact hq))
def xO{id:Nat}{ops:Array Oper}{y:Code}(hd:gH N ops=true)(h:∀ K:St->Prop,(∀ s,W P N n0 y Q s->K s)->opsL P ops ops.toList K σ):W P N n0 (.seq (.region id ops false) y) Q σ :=
 KV (RG hd (h _ (λ_ h=>h)))
def Q7{ops:Array Oper}{K:St->Prop}:opsL P ops [] K σ=K σ:=rfl
def Q8{ops:Array Oper}{o:Oper}{r:List Oper}{K:St->Prop}:opsL P ops (o::r) K σ =
  match o.guard with
  |none=>aW P o σ (opsL P ops r K)
  |some (j,want) =>
   match (ops[j]?).bind (·.dst) with
   |none=>False
   |some d =>
    match σ.env d with
    |.lit (.bool b)=>pO P o (opsL P ops r K) b want σ
    |.lit (.tuple vs)=>vs = #[]/\opsL P ops r K (σ.put o.dst (.lit (.tuple #[])))
    |_=>False:=rfl
def Rb{o:Oper}{K:St->Prop}:pO P o K true true σ=aW P o σ K:=by simp[pO]
def Rf{o:Oper}{K:St->Prop}:pO P o K false false σ=aW P o σ K:=by simp[pO]
def Rd{o:Oper}{K:St->Prop}:pO P o K true false σ=K (σ.put o.dst (.lit (.tuple #[]))):=by simp[pO]
def Re{o:Oper}{K:St->Prop}:pO P o K false true σ=K (σ.put o.dst (.lit (.tuple #[]))):=by simp[pO]
def aek{o:Oper}{K:St->Prop}{b want:Bool}(h1:b=true->pO P o K true want σ)(h2:b=false->pO P o K false want σ):pO P o K b want σ:=by
 cases b
 ·exact h2 rfl
 ·exact h1 rfl
def clr(ds:List Nat)(e:Nat->AV):Nat->AV:=λk=>if ds.contains k then .undef else e k
def Hn{ds:List Nat}{e:Nat->AV}{k:Nat}:clr ds e k=if ds.contains k then .undef else e k:=rfl
def aem(e:Nat->AV)(d:Nat)(v:AV):jT e d v d=v:=by simp[jT]
mutual
def gQ:AV->Bool
 |.ref ..=>false
 |.ptr ..=>false
 |.agg cs=>jl cs
 |.bH cs=>jl cs
 |.fn _ cs=>jl cs
 |.ja _ v=>gQ v
 |.g6 _=>false
 |_=>true
def jl:List AV->Bool
 |[]=>true
 |v::vs=>gQ v&&jl vs
end
mutual
def An(ρ:Nat->Nat):∀ (v:AV),gQ v=true->br ρ v=v
 |.undef,_=>rfl
 |.lit _,_=>rfl
 |.tree ..,_=>rfl
 |.bm _,_=>rfl
 |.ref ..,h=>by simp[gQ]at h
 |.ptr ..,h=>by simp[gQ]at h
 |.agg cs,h=>by simp only[gQ]at h;simp only[br];rw[Ca ρ cs h]
 |.bH cs,h=>by simp only[gQ]at h;simp only[br];rw[Ca ρ cs h]
 |.fn f cs,h=>by simp only[gQ]at h;simp only[br];rw[Ca ρ cs h]
 |.ja t v,h=>by simp only[gQ]at h;simp only[br];rw[An ρ v h]
 |.g6 _,h=>by simp[gQ]at h
def Ca(ρ:Nat->Nat):∀ (l:List AV),jl l=true->qt ρ l=l
 |[],_=>rfl
 |v::vs,h=>by
  simp only[jl,bk]at h;simp only[qt];rw[An ρ v h.1,Ca ρ vs h.2]
end
def aen{l:List AV}(h:jl l=true){j:Nat}{x:AV}(hx:l[j]?=some x):gQ x=true:=by
 induction l generalizing j with
 |nil=>simp at hx
 |cons v l ih =>
  simp only[jl,bk]at h;cases j with
  |zero=>simp at hx;subst hx;exact h.1
  |succ j=>exact ih h.2 (by simpa using hx)
def cA{f:FuncId}{args:List AV}{dst:Option Tmp}{K:St->Prop}{res:AV}(h:an P f args [] res [])(ha:jl args=true)(hr:gQ res=true)(hK:K (σ.put dst res)):sI P f args dst K σ:=by
 refine⟨[],false,args,[],res,[],h,⟨List.nodup_nil,rfl,G9,rfl,?_,G9⟩,?_⟩
 ·intro j c d hc hd;rw[hc]at hd;simp at hd;subst hd;have:=aI.same (σ:=σ) (kp:=(·∈([]:List Nat))) (ρ:=bA σ.aa.length []) (snap:=false) c;rw[An _ c (aen ha hc)]at this;exact this
 ·rw[An _ _ hr];simpa [fi] using hK
def HA{v:AV}(hr:gQ v=true):pH 0 σ v v []:=by
 refine⟨[],false,List.nodup_nil,rfl,G9,G9,aR _,G9,?_⟩;have:=aI.same (σ:=σ) (kp:=λid=>∃ j,j<([]:List Nat).length/\([]:List Nat).getD j 0=id/\([]:List Ob)[j]?≠some .gone) (ρ:=bA σ.aa.length []) (snap:=false) v;rw[An _ _ hr]at this;exact this
end Go.Am
namespace Go.Am
variable {P:Program}
def cls:Op->Nat
 |.move _|.assign _|.pick ..|.convert ..|.binOp ..|.unOp ..|.makeFunc ..|.makeInterface ..|.typeAssert ..|.field ..|.extract ..|.build ..|.index ..=>0
 |.call { callee:=.builtin .min,.. }|.call { callee:=.builtin .max,.. }=>0
 |.nilCheck _|.fieldAddr ..|.indexAddr ..|.slice ..=>1
 |.call { callee:=.builtin .len,.. }=>1
 |.load ..|.lookup ..=>2
 |.alloc _|.box ..|.makeSlice ..|.buildSlice ..|.makeMap ..=>3
 |.store ..=>4
 |_=>5
def uT:Ob->Ob->Prop
 |.var _,.var _=>True
 |.arr s _,.arr s' _=>s=s'
 |.mp a L,.mp b M=>a=b/\L=M
 |.gone,.gone=>True
 |_,_=>False
def yW(o:Ob):uT o o:=by cases o<;>simp[uT]
def lG(c:Nat)(a b:List Ob):Prop :=
 if c<=2 then b=a
 else if c=3 then ∀ (id:Nat),id<a.length->b[id]?=a[id]?
 else if c=4 then b.length=a.length/\∀ (id:Nat) o o',a[id]?=some o->b[id]?=some o'->uT o o'
 else True
def aeo(c:Nat)(h:c<=2)(a:List Ob):lG c a a:=by simp[lG,h]
def HJ(a:List Ob)(o:Ob):lG 3 a (a++[o]):=by
 simp only[lG];intro id h;exact dg h
def aep(σ:St)(id r:Nat)(row:List AV):lG 4 σ.aa (pD σ id r row).aa:=by
 simp only[lG];rw[if_neg Kq,if_neg Kq,if_pos trivial];have key:∀ (x y:Ob),σ.aa[id]?=some x->uT x y->(σ.aa.set id y).length=σ.aa.length/\∀ (i:Nat) o o',σ.aa[i]?=some o->(σ.aa.set id y)[i]?=some o'->uT o o':=by
  intro x y hx oX;refine⟨G9,λi o o' ho cy=>?_⟩;rw[List.getElem?_set]at cy;split at cy
  ·rename_i e;subst e;split at cy
   ·simp at cy;subst cy;rw[hx]at ho;simp at ho;subst ho;exact oX
   ·simp at cy
  ·rw[ho]at cy;simp at cy;subst cy;exact yW o
 unfold pD;split
 ·rename_i cells h;exact key _ _ h trivial
 ·rename_i sz rows h;exact key _ _ h rfl
 ·exact⟨rfl,λi o o' ho cy=>by rw[ho]at cy;simp at cy;subst cy;exact yW o⟩
def pP:AV->Option Nat
 |.ref id _ _ _=>some id
 |.ptr id _ _=>some id
 |.g6 id=>some id
 |_=>none
def iQ(c:Nat)(a b:Option Ob):Prop :=
 if c=0 then True else if c=1 then ∀ o,a=some o->∃ o',b=some o'/\uT o o' else ∀ o,a=some o->b=some o
def rI(c:Nat)(l:List Operand)(σ:St)(e2:Nat->AV)(ob:List Ob):Prop :=
 (∀ x∈l,ev ⟨e2,ob⟩ x=ev σ x)/\(∀ x∈l,∀ id,pP (ev σ x)=some id->iQ c σ.aa[id]? ob[id]?)
def Ls(P:Program)(o:Oper)(σ:St)(K:St->Prop)(c:Nat)(l:List Operand):Prop :=
 ∃ v os,lG c σ.aa os/\K ((⟨σ.env,os⟩:St).put o.dst v)/\∀ e2 ob eD (K2:St->Prop),rI c l σ e2 ob->(if c<=2 then eD=ob else ob=σ.aa/\eD=os)->K2 ((⟨e2,eD⟩:St).put o.dst v)->cE P o ⟨e2,ob⟩ K2
theorem dA{o:Oper}{σ:St}{K:St->Prop}{c:Nat}{l:List Operand}{v:AV}(hW:K (σ.put o.dst v))(h:∀ e2 ob (K2:St->Prop),rI c l σ e2 ob->K2 ((⟨e2,ob⟩:St).put o.dst v)->cE P o ⟨e2,ob⟩ K2)(hc:c<=2:=by simp[cls]):Ls P o σ K c l :=
 ⟨v,σ.aa,aeo _ hc _,hW,fun e2 ob eD K2 hx ho gp=>h e2 ob K2 hx (by rw[if_pos hc]at ho;subst ho;exact gp)⟩
def dB{o:Oper}{σ:St}{K:St->Prop}{c:Nat}{l:List Operand}{v:AV}{os:List Ob}(hc:3<=c)(he:lG c σ.aa os)(hW:K ((⟨σ.env,os⟩:St).put o.dst v))(h:∀ e2 (_:List Ob) (K2:St->Prop),rI 0 l σ e2 σ.aa->K2 ((⟨e2,os⟩:St).put o.dst v)->cE P o ⟨e2,σ.aa⟩ K2):Ls P o σ K c l :=
 ⟨v,os,he,hW,λe2 ob eD K2 hx ho gp=>by rw[if_neg G3]at ho;obtain⟨rfl,rfl⟩:=ho;exact h e2 σ.aa K2 ⟨hx.1,λ_ _ _ _=>by simp[iQ]⟩ gp⟩
def parts_eq{parts:Array (Nat×Operand)}{σ τ:St}(h:∀ x∈parts.toList.map (·.2),ev τ x=ev σ x):
  (parts.toList.map λp=>(p.1,ev τ p.2))=(parts.toList.map λp=>(p.1,ev σ p.2))/\(parts.toList.all λp=>(cellsOf (ev τ p.2)).all cJ)=(parts.toList.all λp=>(cellsOf (ev σ p.2)).all cJ):=by
 have hp:(parts.toList.map λp=>(p.1,ev τ p.2))=(parts.toList.map λp=>(p.1,ev σ p.2)):=oM λp hp=>by rw[h _ (G5 hp)]
 exact⟨hp,by simpa [List.all_map,Function.comp_def] using congrArg (·.all λq=>(cellsOf q.2).all cJ) hp⟩
def Ru{t:Ty}{cells:List AV}{c:Nat}{K:AV->Prop}(h:nx t cells c K):∃v,K v/\∀ K2:AV->Prop,K2 v->nx t cells c K2:=by
 unfold nx at h ⊢;split at h
 ·exact⟨_,h.2,λK2 hK=>by simp_all⟩
 ·split at h<;>first|exact h.elim|exact⟨_,h,λK2 hK=>by simp_all⟩
def aeq{k:IntKind}{p q:Int}{K:Value->Prop}(h:wi k p q K):∃v,K v/\∀ K2:Value->Prop,K2 v->wi k p q K2:=by
 by_cases hk:k=.u64
 ·rw[wi,if_pos hk]at h;exact⟨_,h,λK2 h2=>by rw[wi,if_pos hk];exact h2⟩
 ·rw[wi,if_neg hk]at h;exact⟨_,h.2,λK2 h2=>by rw[wi,if_neg hk];exact⟨h.1,h2⟩⟩
def aer{k:IntKind}{p:Int}{K:Value->Prop}(h:uM k p K):∃v,K v/\∀ K2:Value->Prop,K2 v->uM k p K2:=by
 by_cases hk:k=.u64
 ·rw[uM,if_pos hk]at h;exact⟨_,h,λK2 h2=>by rw[uM,if_pos hk];exact h2⟩
 ·rw[uM,if_neg hk]at h;exact⟨_,h.2,λK2 h2=>by rw[uM,if_neg hk];exact⟨h.1,h2⟩⟩
def aes{op:BinOp}{k:IntKind}{p q:Int}{K:Value->Prop}(h:iC op k p q K):∃v,K v/\∀ K2:Value->Prop,K2 v->iC op k p q K2:=by
 unfold iC at h ⊢;split at h<;>first|exact aeq h|exact⟨_,h.2,λK2 h'=>⟨h.1,h'⟩⟩|exact⟨_,h,λK2 h=>h⟩|exact h.elim
def aet{σ:St}{e:Nat->AV}{ob:List Ob}{id r:Nat}{row:List AV}(h:∀ o,σ.aa[id]?=some o->ob[id]?=some o)(hr:rowOf σ id r=some row):rowOf ⟨e,ob⟩ id r=some row:=by
 unfold rowOf at hr ⊢;cases ho:σ.aa[id]?<;>simp_all
def aeu{σ:St}{e:Nat->AV}{ob:List Ob}{v:AV}{q:Nat×Nat×List (List Int×AV)}(h:∀ id,v=.g6 id->∀ o,σ.aa[id]?=some o->ob[id]?=some o)(hm:mU σ v=some q):mU ⟨e,ob⟩ v=some q:=by
 unfold mU at hm ⊢;split at hm
 ·rename_i id;split at hm
  ·rename_i ag L ho;have:=h id rfl _ ho;simp only[this];exact hm
  ·cases hm
 ·cases hm
def RY{o:Oper}{σ:St}{K:St->Prop}(hW:cE P o σ K):Ls P o σ K (cls o.op) o.op.operands.toList:=by
 obtain⟨dst,op,type,pos,after,guard⟩:=o;unfold cE at hW;cases op
 case call c =>
  obtain⟨callee,args,argTypes⟩:=c;cases callee<;>try exact hW.elim
  rename_i b;cases b<;>try exact hW.elim
  all_goals simp only at hW
  case append =>
   (repeat' split at hW)<;>try exact hW.elim
   rename_i s x t t' cV kD _ _ _ _ z pre σ1 sz src hk hz oh rJ;have tL:σ1=⟨σ.env,σ1.aa⟩/\∀ e,pF ⟨e,σ.aa⟩ (ty P (ty P t).elem).size (ev σ s)=some (pre,⟨e,σ1.aa⟩):=by
    unfold pF at oh ⊢;(repeat' split at oh)<;>simp_all
    all_goals obtain⟨rfl,rfl⟩:=oh;simp
   refine dB (os:=σ1.aa++[.arr sz (pre++src)]) (by simp[cls]) trivial (by have:=hW.2;rw[tL.1]at this;exact this) λe2 ob K2 hx gp=>?_;have jS:oR ⟨e2,σ.aa⟩ (ev σ x)=some (sz,src):=rJ;unfold cE;simp[rI,Op.operands,Call.operands,cV]at hx;simp only[cV,kD,hx.1.1,hx.1.2,hk,hz,tL.2,jS];exact⟨hW.1,gp⟩
  case copy =>
   (repeat' split at hW)<;>try exact hW.elim
   rename_i cV kD _ _ id _ _ _ _ src he rJ _ _ _ ho;refine dB (by simp[cls]) trivial hW.2 λe2 ob K2 hx gp=>?_;have jS:oR ⟨e2,σ.aa⟩ _=_:=rJ;unfold cE;simp[rI,Op.operands,Call.operands,cV]at hx;simp only[cV,kD,hx.1.1,hx.1.2,he,jS,ho];exact⟨hW.1,gp⟩
  case clear =>
   (repeat' split at hW)<;>try exact hW.elim
   rename_i cV kD _ _ id _ _ _ _ he hz _ _ _ ho;refine dB (by simp[cls]) trivial hW.2 λe2 ob K2 hx gp=>?_;unfold cE;simp[rI,Op.operands,Call.operands,cV]at hx;simp only[cV,kD,hx,he,hz,ho];exact⟨hW.1,gp⟩
  all_goals(repeat' split at hW)<;>first|exact hW.elim|exact hW.2.elim|refine dA hW ?_|refine dA hW.2 ?_|refine dA hW.2.2 ?_
  all_goals
   intro e2 ob K2 hx gp;unfold cE;simp[rI,Op.operands,Call.operands,pP,iQ,cls, *]at hx ⊢;first|done|(simp_all;done)|(obtain⟨_,o',_,hk⟩:=hx;cases o'<;>simp_all [uT];done)
 case load t x =>
  simp only at hW;obtain⟨hk,hW⟩:=hW;(repeat' split at hW)<;>try exact hW.elim
  all_goals
   obtain⟨v,hK,hl⟩:=Ru hW;refine dA hK λe2 ob K2 hx gp=>?_;unfold cE;simp[rI,Op.operands,pP,iQ,cls, *]at hx;first|simp only[hx.1,aet hx.2 ‹rowOf _ _ _=_›]|simp only[hx]
   exact⟨hk,hl _ gp⟩
 case store t x y =>
  simp only at hW;obtain⟨hk,hW⟩:=hW;(repeat' split at hW)<;>try exact hW.elim
  rename_i id r c he _ row bj;have tL:∀ row,pD σ id r row=⟨σ.env,(pD σ id r row).aa⟩/\∀ e,pD ⟨e,σ.aa⟩ id r row=⟨e,(pD σ id r row).aa⟩:=by
   intro row;unfold pD;simp only;split<;>simp_all
  refine dB (by simp[cls]) (aep _ _ _ _) (by have:=hW.2;rw[(tL _).1]at this;exact this) λe2 ob K2 hx gp=>?_;have fB:rowOf ⟨e2,σ.aa⟩ id r=some row:=bj;unfold cE;simp only[hx.1 x (by simp[Op.operands]),hx.1 y (by simp[Op.operands]),he,fB];rw[(tL _).2];exact⟨hk,hW.1,gp⟩
 case build t parts =>
  simp only at hW;(repeat' split at hW)<;>first|exact hW.elim|refine dA hW.2 ?_
  all_goals
   intro e2 ob K2 hx gp;obtain⟨h1,h2⟩:=parts_eq (parts:=parts) (by simpa [Op.operands] using hx.1);unfold cE;simp only[h1,h2, *];simp[hW.1]
 case buildSlice t _ parts =>
  simp only at hW;(repeat' split at hW)<;>first|exact hW.elim|refine dB (aR 3) (HJ _ _) hW.2 ?_
  intro e2 ob K2 hx gp;obtain⟨h1,h2⟩:=parts_eq (parts:=parts) (by simpa [Op.operands] using hx.1);unfold cE;simp only[h1,h2, *];simp[hW.1]
 case makeFunc fn first captured =>
  simp only at hW;split at hW<;>first|exact hW.elim|refine dA hW.2 λe2 ob K2 hx gp=>?_
  unfold cE;simp only[oM (l:=captured.toList) (f:=ev ⟨e2,ob⟩) (g:=ev σ) λy hy=>hx.1 y (by simp only[Op.operands,BR,List.mem_append];exact .inr hy)];exact⟨hW.1,gp⟩
 case unOp op t x =>
  simp only at hW;split at hW
  ·rename_i b he;refine dA hW λe2 ob K2 hx gp=>?_;unfold cE;simp[rI,Op.operands]at hx;simp only[hx.1,he];exact gp
  ·rename_i k p he;obtain⟨v,hK,hl⟩:=aer hW;refine dA hK λe2 ob K2 hx gp=>?_;unfold cE;simp[rI,Op.operands]at hx;simp only[hx.1,he];exact hl _ gp
  ·exact hW.elim
 case binOp op t x y yt =>
  simp only at hW;split at hW
  ·rename_i k p k' q he hf;obtain⟨hk,hW⟩:=hW;obtain⟨v,hK,hl⟩:=aes hW;refine dA hK λe2 ob K2 hx gp=>?_;unfold cE;simp[rI,Op.operands,he,hf]at hx;simp only[hx.1.1,hx.1.2];exact⟨hk,hl _ gp⟩
  all_goals(repeat' split at hW)<;>first|exact hW.elim|exact hW.2.elim|refine dA hW.2 ?_
  all_goals
   intro e2 ob K2 hx gp;unfold cE;simp[rI,Op.operands, *]at hx ⊢;first|done|(simp_all;done)
 case slice t x lo hi mx =>
  simp only at hW;obtain⟨hk,eP,rfl,hW⟩:=hW;cases lo<;>cases hi<;>simp only[fE,Option.map_none]at hW;all_goals(repeat' split at hW)<;>first|exact hW.elim|exact hW.2.elim|exact hW.2.2.elim|refine dA hW.2 ?_|refine dA hW.2.2 ?_|refine dA hW.2.2.2 ?_
  all_goals
   intro e2 ob K2 hx gp;unfold cE;simp only[dD.injEq]at *;simp[rI,Op.operands,pP,iQ,cls, *]at hx ⊢;first|done|(simp_all;done)|(obtain⟨_,o',_,hk⟩:=hx;cases o'<;>simp_all [uT];done)|(obtain⟨_,⟨o',_,hk⟩,_⟩:=hx;cases o'<;>simp_all [uT];done)|trace_state
 case makeMap t r =>
  simp only at hW;obtain⟨⟨rfl,hk⟩,hK⟩:=hW;refine dB (aR 3) (HJ _ _) hK λe2 ob K2 hx gp=>?_;unfold cE;exact⟨⟨rfl,hk⟩,gp⟩
 case lookup t x i ok =>
  simp only at hW;split at hW
  ·rename_i ag l id jx L z gI oY oZ;refine dA hW.2 λe2 ob K2 hx gp=>?_;have h1:=hx.1 x (by simp[Op.operands]);have h2:=hx.1 i (by simp[Op.operands]);have h3:mU ⟨e2,ob⟩ (ev σ x)=some (id,jx,L):=aeu (λpL cT o ho=>by
    have:=hx.2 x (by simp[Op.operands]) pL (by rw[cT];rfl);unfold iQ at this;simp[cls]at this;exact this o ho) oY
   unfold cE;simp only[h1,h2,gI,h3,oZ];exact⟨hW.1,gp⟩
  ·exact hW.elim
 case mapUpdate t m k x =>
  simp only at hW;split at hW
  ·rename_i gI oY;obtain⟨mW,El⟩:=hW;refine dB (v:=.undef) (os:=_) (by simp[cls]) trivial El λe2 ob K2 hx gp=>?_;have h1:=hx.1 m (by simp[Op.operands]);have h2:=hx.1 k (by simp[Op.operands]);have h3:=hx.1 x (by simp[Op.operands]);have h4:mU ⟨e2,σ.aa⟩ (ev σ m)=_:=oY;unfold cE;simp only[h1,h2,h3,gI,h4];exact⟨mW,gp⟩
  ·exact hW.elim
 case mapEntry t m k =>
  simp only at hW;split at hW
  ·rename_i gI oY oZ;obtain⟨mW,El⟩:=hW;refine dB (v:=_) (os:=_) (by simp[cls]) trivial El λe2 ob K2 hx gp=>?_;have h1:=hx.1 m (by simp[Op.operands]);have h2:=hx.1 k (by simp[Op.operands]);have h4:mU ⟨e2,σ.aa⟩ (ev σ m)=_:=oY;unfold cE;simp only[h1,h2,gI,h4,oZ];exact⟨mW,gp⟩
  ·exact hW.elim
 case entryStore t m s x =>
  simp only at hW;split at hW
  ·rename_i hs oY;obtain⟨mW,El⟩:=hW;refine dB (v:=.undef) (os:=_) (by simp[cls]) trivial El λe2 ob K2 hx gp=>?_;have h1:=hx.1 m (by simp[Op.operands]);have h2:=hx.1 s (by simp[Op.operands]);have h3:=hx.1 x (by simp[Op.operands]);have h4:mU ⟨e2,σ.aa⟩ (ev σ m)=_:=oY;unfold cE;simp only[h1,h2,h3,hs,h4];exact⟨mW,gp⟩
  ·exact hW.elim
 all_goals(try simp only at hW);(try exact hW.elim)
 all_goals(repeat' split at hW)<;>first|exact hW.elim|exact hW.2.elim|exact hW.2.2.elim|refine dA hW ?_|refine dA hW.2 ?_|refine dA hW.2.2 ?_|refine dA hW.2.2.2 ?_|refine dB (aR 3) (HJ _ _) hW.2 ?_|refine dB (aR 3) (HJ _ _) hW.2.1 ?_
 all_goals
  intro e2 ob K2 hx gp;unfold cE;simp[rI,Op.operands,pP,iQ,cls,-gV, *]at hx ⊢;first|done|(simp_all;done)|(obtain⟨_,rfl,_⟩:=hW;simp_all;done)|(obtain⟨_,o',_,hk⟩:=hx;cases o'<;>simp_all [uT];done)
def adK{o:Oper}{σ:St}{K:St->Prop}(hW:cE P o σ K):
  ∃ v os,lG (cls o.op) σ.aa os/\K ((⟨σ.env,os⟩:St).put o.dst v)/\∀ (e2:Nat->AV) (K2:St->Prop),(∀ x∈o.op.operands.toList,ev ⟨e2,σ.aa⟩ x=ev σ x)->K2 ((⟨e2,os⟩:St).put o.dst v)->cE P o ⟨e2,σ.aa⟩ K2:=by
 obtain⟨v,os,h1,h2,h3⟩:=RY hW;refine⟨v,os,h1,h2,λe2 K2 hx hK=>h3 e2 _ os K2 ⟨hx,λ_ _ _ _=>?_⟩ ?_ hK⟩
 ·unfold iQ;(repeat' split)<;>first|trivial|exact λo ho=>ho|exact λo ho=>⟨o,ho,yW o⟩
 ·split
  ·rename_i hc;simpa [lG,hc] using h1
  ·exact⟨rfl,rfl⟩
def Rv{o:Oper}{σ:St}{K:St->Prop}(hc:cls o.op<=2)(hW:cE P o σ K):
  ∃ v,K (σ.put o.dst v)/\∀ (σ2:St) (K2:St->Prop),(∀ x∈o.op.operands.toList,ev σ2 x=ev σ x)->(∀ x∈o.op.operands.toList,∀ id,pP (ev σ x)=some id->iQ (cls o.op) σ.aa[id]? σ2.aa[id]?) ->
   K2 (σ2.put o.dst v)->cE P o σ2 K2:=by
 obtain⟨v,os,h1,h2,h3⟩:=RY hW;simp only[lG,hc,if_true]at h1 h3;subst h1;exact⟨v,h2,λσ2 K2 hx ho hK=>h3 σ2.env σ2.aa _ K2 ⟨hx,ho⟩ rfl hK⟩
end Go.Am

