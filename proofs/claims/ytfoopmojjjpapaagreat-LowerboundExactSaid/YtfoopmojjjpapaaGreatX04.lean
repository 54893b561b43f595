import Derived.Test.YtfoopmojjjpapaaGreatX03
set_option linter.all false
set_option maxHeartbeats 0
set_option maxRecDepth 20000
open Bool renaming and_eq_true→bg
open List renaming mem_cons→bm,mem_of_getElem?→gY,getElem?_map→bV,getElem?_cons_zero→uW,getElem?_append_left→eL,getElem?_set_ne→fD,getElem?_cons_succ→r9,getElem?_append_right→gZ,length_cons→cX,eq_nil_of_length_eq_zero→AS,getElem?_eq_some_iff→aR,getD_eq_getElem?_getD→ax,mem_map_of_mem→CD,length_map→fF,mem_map→bS,all_eq_true→gd,nodup_nil→E0,map_congr_left→uX
open Option renaming map_eq_some_iff→uV,some→cy,map_some→gF
open Nat renaming lt_or_ge→du,le_refl→aX
open Array renaming toList_append→CC,getD_eq_getD_getElem?→eA,getElem?_append_left→EY,getElem?_toList→CE,getElem?_map→N8
namespace Go.Am
variable {P:Program}
mutual
def bj(ρ:Nat->Nat):AV->AV
 |.ref id sz off len=>.ref (ρ id) sz off len
 |.ptr id r c=>.ptr (ρ id) r c
 |.agg cs=>.agg (oa ρ cs)
 |.bu cs=>.bu (oa ρ cs)
 |.fn f cs=>.fn f (oa ρ cs)
 |.hZ t v=>.hZ t (bj ρ v)
 |.c9 id=>.c9 (ρ id)
 |v=>v
def oa(ρ:Nat->Nat):List AV->List AV
 |[]=>[]
 |v::vs=>bj ρ v::oa ρ vs
end
def xW(ρ:Nat->Nat)(l:List AV):oa ρ l=l.map (bj ρ):=by
 induction l with
 |nil=>simp[oa]
 |cons v l ih=>simp[oa,ih]
def bM(ρ:Nat->Nat):Ob->Ob
 |.gone=>.gone
 |.var cs=>.var (cs.map (bj ρ))
 |.arr sz rows=>.arr sz (rows.map (·.map (bj ρ)))
 |.mp ag L=>.mp ag (L.map λp=>(p.1,bj ρ p.2))
mutual
def flat:AV->Bool
 |.tree ..=>false
 |.bY _=>false
 |.agg cs=>Bb cs
 |.bu cs=>Bb cs
 |.fn _ cs=>Bb cs
 |.hZ _ v=>flat v
 |_=>true
def Bb:List AV->Bool
 |[]=>true
 |v::vs=>flat v&&Bb vs
end
def Jp{l:List AV}(h:Bb l=true):∀ v∈l,flat v=true:=by
 induction l with
 |nil=>intro v hv;simp at hv
 |cons x l ih =>
  simp only[Bb,bg]at h;intro v hv;rcases bm.1 hv with rfl|hv
  ·exact h.1
  ·exact ih h.2 v hv
def A4:Ob->Prop
 |.gone=>True
 |.var cs=>∀ v∈cs,flat v=true
 |.arr _ rows=>∀ row∈rows,∀ v∈row,flat v=true
 |.mp _ L=>∀ p∈L,flat p.2=true
def aw.acJ{os:List Ob}{w:World}{Z Z':Nat->Prop}{blk:fR}{v:AV}{cv:Value}(h:aw os w Z blk v cv)(hf:flat v=true):aw os w Z' blk v cv:=by
 induction h with
 |undef cv=>exact .undef cv
 |cC v cv h=>cases h<;>first|exact .cC _ _ (.lit _)|simp[flat]at hf
 |bY=>simp[flat]at hf
 |ki id sz off len cv h h1=>exact .ki id sz off len cv h h1
 |mN id r c cv h h1=>exact .mN id r c cv h h1
 |ref id sz off len b o cap cap' rows h hb hl hc jy=>exact .ref id sz off len b o cap cap' rows h hb hl hc jy
 |lJ id sz h hb=>exact .lJ id sz h hb
 |mg id sz off b x bo rows h hb hl=>exact .mg id sz off b x bo rows h hb hl
 |nF id c b cap cells h hb=>exact .nF id c b cap cells h hb
 |oc id r c sz b o cap rows h hb=>exact .oc id r c sz b o cap rows h hb
 |agg cs bd hs _ ih=>simp only[flat]at hf;exact .agg cs bd hs (λj x hx=>ih j x hx (Jp hf x (gY hx)))
 |bu cs bd hs _ ih=>simp only[flat]at hf;exact .bu cs bd hs (λj x hx=>ih j x hx (Jp hf x (gY hx)))
 |fn f cs bd hs _ ih=>simp only[flat]at hf;exact .fn f cs bd hs (λj x hx=>ih j x hx (Jp hf x (gY hx)))
 |hZ t v cv _ ih=>simp only[flat]at hf;exact .hZ t v cv (ih hf)
 |c9 id b ag L h hb=>exact .c9 id b ag L h hb
 |qm id cv h h1=>exact .qm id cv h h1
def aw.up{os gk:List Ob}{w:World}{Z Z':Nat->Prop}{blk jN:fR}{ρ:Nat->Nat}{v:AV}{cv:Value}(h:aw os w Z blk v cv)(hz:∀ b,Z b->Z' b)(ho:∀ j o,os[j]?=some o->gk[ρ j]?=some (bM ρ o)/\(o≠.gone->jN (ρ j)=blk j)):aw gk w Z' jN (bj ρ v) cv:=by
 induction h with
 |undef cv=>exact .undef cv
 |cC v cv h =>
  have h':aw gk w Z' jN v cv:=.cC _ _ (h.mono (λb hb=>⟨hz b hb,rfl⟩));cases h<;>simpa [bj] using h'
 |bY cells b o f sL hc ht=>exact .bY cells b o f (hz b sL) hc (λj x hx=>(ht j x hx).mono (λb hb=>⟨hz b hb,rfl⟩))
 |ki id sz off len cv h h1=>exact .ki _ sz off len cv (ho id _ h).1 h1
 |mN id r c cv h h1=>exact .mN _ r c cv (ho id _ h).1 h1
 |ref id sz off len b o cap cap' rows h hb hl hc jy =>
  obtain⟨h1,h2⟩:=ho id _ h;exact .ref _ sz off len b o cap cap' _ h1 ((h2 IM).trans hb) (by simpa using hl) hc jy
 |lJ id sz h hb =>
  obtain⟨h1,h2⟩:=ho id _ h;exact .lJ _ sz h1 ((h2 IM).trans hb)
 |mg id sz off b x bo rows h hb hl =>
  obtain⟨h1,h2⟩:=ho id _ h;exact .mg _ sz off b x bo _ h1 ((h2 IM).trans hb) (by simpa using hl)
 |nF id c b cap cells h hb =>
  obtain⟨h1,h2⟩:=ho id _ h;exact .nF _ c b cap _ h1 ((h2 IM).trans hb)
 |oc id r c sz b o cap rows h hb =>
  obtain⟨h1,h2⟩:=ho id _ h;exact .oc _ r c sz b o cap _ h1 ((h2 IM).trans hb)
 |agg cs bd hs _ ih =>
  simp only[bj,xW];refine .agg _ bd (by simpa using hs) (λj x hx=>?_);simp only[bV,uV]at hx;obtain⟨y,hy,rfl⟩:=hx;exact ih j y hy
 |bu cs bd hs _ ih =>
  simp only[bj,xW];refine .bu _ bd (by simpa using hs) (λj x hx=>?_);simp only[bV,uV]at hx;obtain⟨y,hy,rfl⟩:=hx;exact ih j y hy
 |fn f cs bd hs _ ih =>
  simp only[bj,xW];refine .fn f _ bd (by simpa using hs) (λj x hx=>?_);simp only[bV,uV]at hx;obtain⟨y,hy,rfl⟩:=hx;exact ih j y hy
 |hZ t v cv _ ih=>simp only[bj];exact .hZ t _ cv ih
 |c9 id b ag L h hb =>
  obtain⟨h1,h2⟩:=ho id _ h;exact .c9 _ b ag _ h1 ((h2 IM).trans hb)
 |qm id cv h h1=>exact .qm _ cv (ho id _ h).1 h1
def CX{ρ:Nat->Nat}{o:Ob}:bM ρ o=.gone↔o=.gone:=by cases o<;>simp[bM]
def Ob.acK{ρ:Nat->Nat}{x y:Ob}(h:x.dI y):(bM ρ x).dI (bM ρ y):=by
 cases x<;>cases y<;>simp[Ob.dI,bM]at h ⊢<;>exact h
def aw.down{os gk:List Ob}{w:World}{Z Z':Nat->Prop}{blk jN:fR}{ρ:Nat->Nat}{v:AV}{cv:Value}(h:aw os w Z blk v cv)(hz:∀ b,Z b->Z' b)(ho:∀ j x,os[ρ j]?=some x->∃ o,gk[j]?=some o/\(o=.gone\/(x=bM ρ o/\jN j=blk (ρ j)))):∀ v',v=bj ρ v'->aw gk w Z' jN v' cv:=by
 induction h with
 |undef cv=>intro v' hv;cases v'<;>simp[bj]at hv;exact .undef cv
 |cC v cv h =>
  intro v' hv;have h':aw gk w Z' jN v cv:=.cC _ _ (h.mono (λb hb=>⟨hz b hb,rfl⟩));cases h<;>cases v'<;>simp[bj]at hv<;>(first|(subst hv;exact h')|(obtain⟨rfl,rfl⟩:=hv;exact h'))
 |bY cells b o f sL hc ht =>
  intro v' hv;cases v'<;>simp[bj]at hv;subst hv;exact .bY _ b o f (hz b sL) hc (λj x hx=>(ht j x hx).mono (λb hb=>⟨hz b hb,rfl⟩))
 |ki id sz off len cv h h1 =>
  intro v' hv;cases v'<;>simp[bj]at hv;obtain⟨rfl,rfl,rfl,rfl⟩:=hv;obtain⟨o,h2,rfl |⟨h3,_⟩⟩:=ho _ _ h
  ·exact .ki _ _ _ _ cv h2 h1
  ·have:=CX.1 h3.symm;subst this;exact .ki _ _ _ _ cv h2 h1
 |mN id r c cv h h1 =>
  intro v' hv;cases v'<;>simp[bj]at hv;obtain⟨rfl,rfl,rfl⟩:=hv;obtain⟨o,h2,rfl |⟨h3,_⟩⟩:=ho _ _ h
  ·exact .mN _ _ _ cv h2 h1
  ·have:=CX.1 h3.symm;subst this;exact .mN _ _ _ cv h2 h1
 |ref id sz off len b o cap cap' rows h hb hl hc jy =>
  intro v' hv;cases v'<;>simp[bj]at hv;obtain⟨rfl,rfl,rfl,rfl⟩:=hv;obtain⟨x,h2,rfl |⟨h3,h4⟩⟩:=ho _ _ h
  ·exact .ki _ _ _ _ _ h2 rfl
  ·cases x<;>simp[bM]at h3;obtain⟨rfl,rfl⟩:=h3;exact .ref _ _ _ _ b o cap cap' _ h2 (h4.trans hb) (by simpa using hl) hc jy
 |lJ id sz h hb =>
  intro v' hv;cases v'<;>simp[bj]at hv;obtain⟨rfl,rfl,rfl,rfl⟩:=hv;obtain⟨x,h2,rfl |⟨h3,h4⟩⟩:=ho _ _ h
  ·exact .ki _ _ _ _ _ h2 rfl
  ·cases x<;>simp[bM]at h3;obtain⟨rfl,h3⟩:=h3;subst h3;exact .lJ _ _ h2 (h4.trans hb)
 |mg id sz off b x bo rows h hb hl =>
  intro v' hv;cases v'<;>simp[bj]at hv;obtain⟨rfl,rfl,rfl,rfl⟩:=hv;obtain⟨y,h2,rfl |⟨h3,h4⟩⟩:=ho _ _ h
  ·exact .ki _ _ _ _ _ h2 rfl
  ·cases y<;>simp[bM]at h3;obtain⟨rfl,rfl⟩:=h3;exact .mg _ _ _ b x bo _ h2 (h4.trans hb) (by simpa using hl)
 |nF id c b cap cells h hb =>
  intro v' hv;cases v'<;>simp[bj]at hv;obtain⟨rfl,rfl,rfl⟩:=hv;obtain⟨y,h2,rfl |⟨h3,h4⟩⟩:=ho _ _ h
  ·exact .mN _ _ _ _ h2 rfl
  ·cases y<;>simp[bM]at h3;exact .nF _ _ b cap _ h2 (h4.trans hb)
 |oc id r c sz b o cap rows h hb =>
  intro v' hv;cases v'<;>simp[bj]at hv;obtain⟨rfl,rfl,rfl⟩:=hv;obtain⟨y,h2,rfl |⟨h3,h4⟩⟩:=ho _ _ h
  ·exact .mN _ _ _ _ h2 rfl
  ·cases y<;>simp[bM]at h3;obtain⟨rfl,rfl⟩:=h3;exact .oc _ _ _ _ b o cap _ h2 (h4.trans hb)
 |agg cs bd hs _ ih =>
  intro v' hv;cases v'<;>simp[bj,xW]at hv;rename_i rp;subst hv;exact .agg _ bd (by simpa using hs) (λj x hx=>ih j (bj ρ x) (by simp[hx]) x rfl)
 |bu cs bd hs _ ih =>
  intro v' hv;cases v'<;>simp[bj,xW]at hv;rename_i rp;subst hv;exact .bu _ bd (by simpa using hs) (λj x hx=>ih j (bj ρ x) (by simp[hx]) x rfl)
 |fn f cs bd hs _ ih =>
  intro v' hv;cases v'<;>simp[bj,xW]at hv;obtain⟨rfl,hv⟩:=hv;subst hv;exact .fn _ _ bd (by simpa using hs) (λj x hx=>ih j (bj ρ x) (by simp[hx]) x rfl)
 |hZ t v cv _ ih =>
  intro v' hv;cases v'<;>simp[bj]at hv;obtain⟨rfl,hv⟩:=hv;exact .hZ _ _ cv (ih _ hv)
 |c9 id b ag L h hb =>
  intro v' hv;cases v'<;>simp[bj]at hv;subst hv;obtain⟨y,h2,rfl |⟨h3,h4⟩⟩:=ho _ _ h
  ·exact .qm _ _ h2 rfl
  ·cases y<;>simp[bM]at h3;obtain⟨rfl,h3⟩:=h3;exact .c9 _ b _ _ h2 (h4.trans hb)
 |qm id cv h h1 =>
  intro v' hv;cases v'<;>simp[bj]at hv;subst hv;obtain⟨y,h2,rfl |⟨h3,h4⟩⟩:=ho _ _ h
  ·exact .qm _ _ h2 h1
  ·exact .qm _ _ (by rw[h2,CX.1 h3.symm]) h1
def Jq(P : Program)(f : FuncId): Prop := ∃ fn, P.funcs[f]? = some fn /\ (fn.name == "runtime.NumGoroutine") = false /\ fn.body.isNone = false
def Holds(P:Program)(f:FuncId)(args:List AV)(aa:List Ob)(res:AV)(ba:List Ob):Prop :=
 Jq P f/\∀ γ:Cx,γ.tmps.size=args.length->bh ⟨λk=>args.getD k .undef,aa⟩ γ ->
  Calls P f γ.tmps γ.w (λe w'=>∃ cv az,e=.returned cv/\az.w=w'/\az.tmps = #[cv]/\bh ⟨λk=>[res].getD k .undef,ba⟩ az/\Fr aa γ ba az)
inductive dF(σ:St)(kp:Nat->Prop):AV->AV->Prop
 |lit (x:Value):dF σ kp (.lit x) (.lit x)
 |tree (s:Nat) (r:List (List AV)):dF σ kp (.tree s r) (.tree s r)
 |nil (sz:Nat):dF σ kp (.tree sz []) (.lit (.slice none 0 0))
 |ref (id sz off len:Nat) (rows gx:List (List AV)) (g:Nat->Nat->AV) (ho:σ.aa[id]?=some (.arr sz rows)) (sw:¬ kp id) (hl:gx.length=((rows.drop off).take len).length) (hw:∀ row∈gx,row.length=sz)
   (h1:∀ r c v,cellAt gx r c=some v->cellAt ((rows.drop off).take len) r c=some (g r c)) (h2:∀ r c v,cellAt gx r c=some v->dF σ kp v (g r c)):dF σ kp (.tree sz gx) (.ref id sz off len)
inductive bT(σ:St)(kp:Nat->Prop)(ρ:Nat->Nat)(snap:Bool):AV->AV->Prop
 |same (v:AV):bT σ kp ρ snap v (bj ρ v)
 |snap (c d:AV) (hs:snap=true) (h:dF σ kp c d):bT σ kp ρ snap c d
 |agg (cs ds:List AV) (hl:cs.length=ds.length) (h:∀ (j:Nat) c d,cs[j]?=some c->ds[j]?=some d->bT σ kp ρ snap c d):bT σ kp ρ snap (.agg cs) (.agg ds)
 |bu (cs ds:List AV) (hl:cs.length=ds.length) (h:∀ (j:Nat) c d,cs[j]?=some c->ds[j]?=some d->bT σ kp ρ snap c d):bT σ kp ρ snap (.bu cs) (.bu ds)
def bC(n:Nat)(aj:List Nat)(j:Nat):Nat:=if j<aj.length then aj.getD j 0 else n+(j-aj.length)
def gf(aa:List Ob):List Nat->List Ob->List Ob
 |i::aj,o::new=>gf (aa.set i o) aj new
 |[],new=>aa++new
 |_::_,[]=>aa
def Jl(aj:List Nat):∀ (aa new:List Ob),aj.length<=new.length->(gf aa aj new).length=aa.length+(new.length-aj.length):=by
 induction aj with
 |nil=>intro aa new _;simp[gf]
 |cons i aj ih =>
  intro aa new h;cases new with
  |nil=>simp at h
  |cons o new=>simp only[gf];rw[ih _ _ (by simpa using h)];simp
def Fp(aj:List Nat):∀ (aa new:List Ob),aj.length<=new.length->aj.Nodup->(∀ i∈aj,i<aa.length)->∀ j,j<aj.length->(gf aa aj new)[aj.getD j 0]?=new[j]?:=by
 induction aj with
 |nil=>intro aa new _ _ _ j hj;simp at hj
 |cons i aj ih =>
  intro aa new h hn hl j hj;cases new with
  |nil=>simp at h
  |cons o new =>
   simp only[gf];rw[List.nodup_cons]at hn;have hi:=hl i IM;have h':aj.length<=new.length:=by simpa using h
   cases j with
   |zero =>
    simp only[List.getD_cons_zero,uW];have key:∀ (aj:List Nat) (aa new:List Ob),aj.length<=new.length->i ∉ aj->i<aa.length->(gf aa aj new)[i]?=aa[i]?:=by
     intro aj
     induction aj with
     |nil=>intro aa new _ _ hi;simp only[gf];rw[eL hi]
     |cons k aj Bd =>
      intro aa new h vf hi;cases new with
      |nil=>simp at h
      |cons o new =>
       simp only[bm,not_or]at vf;simp only[gf];rw[Bd _ _ (by simpa using h) vf.2 (by simpa using hi),fD (Ne.symm vf.1)]
    rw[key aj _ _ h' hn.1 (by simpa using hi)];simp[hi]
   |succ j =>
    simp only[List.getD_cons_succ,r9];exact ih _ _ h' hn.2 (λk hk=>by simpa using hl k (by simp[hk])) j (by simpa using hj)
def Fs(aj:List Nat):∀ (aa new:List Ob),aj.length<=new.length->∀ i,i ∉ aj->i<aa.length->(gf aa aj new)[i]?=aa[i]?:=by
 induction aj with
 |nil=>intro aa new _ i _ hi;simp only[gf];rw[eL hi]
 |cons k aj ih =>
  intro aa new h i vf hi;cases new with
  |nil=>simp at h
  |cons o new =>
   simp only[bm,not_or]at vf;simp only[gf];rw[ih _ _ (by simpa using h) i vf.2 (by simpa using hi),fD (Ne.symm vf.1)]
def Qe(aj:List Nat):∀ (aa new:List Ob),aj.length<=new.length->∀ m,(gf aa aj new)[aa.length+m]?=new[aj.length+m]?:=by
 induction aj with
 |nil=>intro aa new _ m;simp only[gf];rw[gZ AT];simp
 |cons k aj ih =>
  intro aa new h m;cases new with
  |nil=>simp at h
  |cons o new =>
   simp only[gf];have:=ih (aa.set k o) new (by simpa using h) m;simp only[List.length_set]at this;rw[this];simp only[cX];have e:aj.length+1+m=(aj.length+m)+1:=AT;rw[e];simp
end Go.Am
namespace Go.Am
variable {P:Program}
def Ft(P:Program)(f:FuncId)(args:List AV)(σ:St)(K:AV->St->Prop):Prop :=
 ∃ (aj:List Nat) (snap:Bool) (eN:List AV) (bU:List Ob) (res:AV) (cV:List Ob),Holds P f eN bU res cV /\
  (aj.Nodup/\bU.length=aj.length/\(∀ (j:Nat) o,bU[j]?=some o->σ.aa[aj.getD j 0]?=some (bM (bC σ.aa.length aj) o)) /\
   eN.length=args.length/\(∀ (j:Nat) c d,eN[j]?=some c->args[j]?=some d->bT σ (·∈aj) (bC σ.aa.length aj) snap c d) /\
   (snap=true->flat res=true/\∀ o∈cV,A4 o)) /\
  K (bj (bC σ.aa.length aj) res) { σ with aa:=gf σ.aa aj (cV.map (bM (bC σ.aa.length aj))) }
def dF.zq{σ:St}{γ:Cx}(h:bh σ γ){kp:Nat->Prop}{γc:Cx}(hz:∀ b,γ.Z b->γc.Z b)(hw:γc.w=γ.w)(Jr:∀ id b o cap,¬ kp id->Live σ.aa id->γ.blk id=some (b,o,cap)->γc.Z b){c d:AV}(ha:dF σ kp c d):∀ cv,aw σ.aa γ.w γ.Z γ.blk d cv->hJ γc.w γc.Z c cv:=by
 induction ha with
 |lit x=>intro cv hv;rw[hv.cD];exact .lit x
 |tree s r=>intro cv hv;exact hv.zr.mono (λb hb=>⟨hz b hb,by rw[hw]⟩)
 |nil sz=>intro cv hv;rw[hv.cD];exact .nil sz 0 none
 |ref id sz off len rows gx g bI sw hl0 A8 sH nY ih =>
  intro cv hv;obtain⟨h0,cF,hblk⟩:=h.dx id _ bI;have bN:Live σ.aa id:=⟨_,bI,IM⟩;cases hv with
  |cC _ _ h=>cases h
  |ki _ _ _ _ _ h=>rw[bI]at h;simp at h
  |lJ _ _ h' hb =>
   have:gx=[]:=AS (by simpa using hl0);subst this;exact hJ.nil sz 0 none
  |mg _ _ _ b x bo acL h' hb hl =>
   have:gx=[]:=AS (by simpa using hl0);subst this;exact hJ.nil sz 0 (some ⟨b,x,none⟩)
  |ref _ _ _ _ b o cap cap' acL h' hb hl hc jy =>
   rw[bI]at h';simp at h';subst h';rcases hblk with⟨h1,_⟩|⟨b',o',CY,cur,t,h1,h2,h3,h4,h5,h6⟩
   ·rw[hb]at h1;simp at h1
   ·rw[hb]at h1;simp at h1;obtain⟨rfl,rfl,rfl⟩:=h1;have hlen:((rows.drop off).take len).length=len:=N0;have ri:∀ r c v,cellAt ((rows.drop off).take len) r c=some v->cellAt rows (off+r) c=some v/\r<len:=by
     intro r c v hv;simp only[cellAt,List.getElem?_take,List.getElem?_drop]at hv;split at hv
     ·exact⟨hv,by assumption⟩
     ·simp at hv
    have I1:γc.Z b:=Jr id b o cap sw bN hb;have:=hJ.tree (w:=γc.w) (Z:=γc.Z) sz gx b (o+off*sz) cap' (λr c=>cur.getD (o+((off+r)*sz+c)) Go.undef) I1
     A8 (by rw[hl0,hlen];exact jy)
     (λr c v hv=>by
      obtain⟨qn,hr⟩:=ri r c _ (sH r c v hv);obtain⟨u4,iK⟩:=CZ cF qn;have aS:=zs (show off+r<cap by omega) iK;rw[hw];have e:o+off*sz+(r*sz+c)=o+((off+r)*sz+c):=by rw[Nat.add_mul];omega
      rw[e];exact zt h2 AT)
     (λr c v hv=>by
      obtain⟨qn,_⟩:=ri r c _ (sH r c v hv);exact ih r c v hv _ (h6 _ _ _ qn))
    rw[hl0,hlen]at this;exact this
def bT.rel{σ:St}{γ:Cx}(h:bh σ γ){kp:Nat->Prop}{ρ:Nat->Nat}{bU:List Ob}{snap:Bool}{γc:Cx}(hz:∀ b,γ.Z b->γc.Z b)(hw:γc.w=γ.w)(Jr:snap=true->∀ id b o cap,¬ kp id->Live σ.aa id->γ.blk id=some (b,o,cap)->γc.Z b)(ho:∀ j x,σ.aa[ρ j]?=some x->∃ o,bU[j]?=some o/\(o=.gone\/(x=bM ρ o/\γc.blk j=γ.blk (ρ j)))){c d:AV}(ha:bT σ kp ρ snap c d):∀ cv,aw σ.aa γ.w γ.Z γ.blk d cv->aw bU γc.w γc.Z γc.blk c cv:=by
 induction ha with
 |same v =>
  intro cv hv;rw[hw];exact hv.down hz ho v rfl
 |snap c d hs hf =>
  intro cv hv;exact .cC _ _ (hf.zq h hz hw (Jr hs) cv hv)
 |agg cs ds hl _ ih =>
  intro cv hv;obtain⟨bd,rfl,h1,h2⟩:=hv.Qh;refine .agg cs bd AT (λj x hx=>?_);have hj:j<ds.length:=by have:=(aR.1 hx).1;omega
  exact ih j x ds[j] hx (by simp[hj]) _ (h2 j _ (by simp[hj]))
 |bu cs ds hl _ ih =>
  intro cv hv;obtain⟨bd,rfl,h1,h2⟩:=hv.Qi;refine .bu cs bd AT (λj x hx=>?_);have hj:j<ds.length:=by have:=(aR.1 hx).1;omega
  exact ih j x ds[j] hx (by simp[hj]) _ (h2 j _ (by simp[hj]))
def Qj{n:Nat}{aj:List Nat}(_hs:∀ i∈aj,i<n){j:Nat}(h:bC n aj j<n):j<aj.length/\bC n aj j=aj.getD j 0:=by
 unfold bC at h ⊢;split
 ·exact⟨by assumption,rfl⟩
 ·rename_i hj;rw[if_neg hj]at h;omega
def aE{aj:List Nat}{j:Nat}(h:j<aj.length):aj.getD j 0∈aj:=by
 rw[ax];simp[h]
def Qk{aj:List Nat}(hn:aj.Nodup){i j:Nat}(hi:i<aj.length)(hj:j<aj.length)(h:aj.getD i 0=aj.getD j 0):i=j:=by
 rw[ax,ax]at h;simp[hi,hj]at h;exact(List.getElem_inj hn).1 h
def Fu{aj:List Nat}{i:Nat}(h:i∈aj):∃j,j<aj.length/\aj.getD j 0=i:=by
 obtain⟨j,hj⟩:=List.mem_iff_getElem?.1 h;have:=(aR.1 hj).1;exact⟨j,this,by rw[ax,hj];rfl⟩
def dy(P:Program)(f:FuncId)(args:List AV)(aa:List Ob)(ic:AV->List Ob->Prop):Prop :=
 Jq P f/\∀ γ:Cx,γ.tmps.size=args.length->bh ⟨λk=>args.getD k .undef,aa⟩ γ ->
  Calls P f γ.tmps γ.w (λe w'=>∃ res ba cv az,ic res ba/\e=.returned cv/\az.w=w'/\az.tmps = #[cv]/\bh ⟨λk=>[res].getD k .undef,ba⟩ az/\Fr aa γ ba az)
def Js(P:Program)(f:FuncId)(args:List AV)(σ:St)(K:AV->St->Prop):Prop :=
 ∃ (aj:List Nat) (snap:Bool) (eN:List AV) (bU:List Ob) (ic:AV->List Ob->Prop),dy P f eN bU ic /\
  (aj.Nodup/\bU.length=aj.length/\(∀ (j:Nat) o,bU[j]?=some o->σ.aa[aj.getD j 0]?=some (bM (bC σ.aa.length aj) o)) /\
   eN.length=args.length/\(∀ (j:Nat) c d,eN[j]?=some c->args[j]?=some d->bT σ (·∈aj) (bC σ.aa.length aj) snap c d)) /\
  ∀ res cV,ic res cV->(snap=true->flat res=true/\∀ o∈cV,A4 o) /\
   K (bj (bC σ.aa.length aj) res) { σ with aa:=gf σ.aa aj (cV.map (bM (bC σ.aa.length aj))) }
def Qm{σ:St}{γ:Cx}(h:bh σ γ){f:FuncId}{args:List AV}{argv:Array Value}(aJ:argv.size=args.length)(Jt:∀ (j:Nat) d,args[j]?=some d->aw σ.aa γ.w γ.Z γ.blk d (argv.getD j Go.undef)){K:AV->St->Prop}(hc:Js P f args σ K):
  Calls P f argv γ.w (λe w'=>∃ cv v σ' az,e=.returned cv/\az.w=w'/\az.tmps=γ.tmps/\bh σ' az/\Fr σ.aa γ σ'.aa az/\aw σ'.aa az.w az.Z az.blk v cv/\K v σ'/\σ'.env=σ.env):=by
 obtain⟨aj,snap,eN,bU,ic,hH,⟨bx,bn,rq,j5,nB⟩,hKP⟩:=hc;have iU:∀ i∈aj,i<σ.aa.length:=by
  intro i hi;obtain⟨j,hj,rfl⟩:=Fu hi;have:j<bU.length:=AT;exact(aR.1 (rq j bU[j] (by simp[this]))).1
 let ρ:=bC σ.aa.length aj
 let S:Nat->Prop:=λb=>snap=true/\∃ id o cap,id ∉ aj/\Live σ.aa id/\γ.blk id=some (b,o,cap)
 let γc:Cx:={ w:=γ.w,tmps:=argv,Z:=λb=>γ.Z b\/S b,blk:=λj=>if j<aj.length then γ.blk (aj.getD j 0) else none }
 have wC:∀ j x,σ.aa[ρ j]?=some x->∃ o,bU[j]?=some o/\(o=.gone\/(x=bM ρ o/\γc.blk j=γ.blk (ρ j))):=by
  intro j x hx;obtain⟨hj,hr⟩:=Qj iU (aR.1 hx).1;have mh:j<bU.length:=AT;have:=rq j bU[j] (by simp[mh]);refine⟨bU[j],by simp[mh],.inr ⟨?_,?_⟩⟩
  ·have bW:σ.aa[bC σ.aa.length aj j]?=some x:=hx;rw[hr,this]at bW;simpa using bW.symm
  ·show(if j<aj.length then γ.blk (aj.getD j 0) else none)=γ.blk (bC σ.aa.length aj j);rw[if_pos hj,hr]
 have jf:∀ b,γ.Z b->γc.Z b:=λb hb=>.inl hb;have vg:∀ j,Live bU j->Live σ.aa (aj.getD j 0)/\j<aj.length:=by
  rintro j⟨o,ho,hg⟩;have hj:=(aR.1 ho).1;exact⟨⟨_,rq j o ho,λe=>hg (CX.1 e)⟩,AT⟩
 have wD:=λ{i b o c}=>h.blt (i:=i) (b:=b) (o:=o) (c:=c);have Ju:bh ⟨λk=>eN.getD k .undef,bU⟩ γc:=by
  refine⟨λk=>?_,?_,?_,?_,?_,λg=>xY (h.gl g) λb hb=>⟨jf b hb,rfl⟩⟩
  ·rcases du k eN.length with hk|hk
   ·have e:eN.getD k .undef=eN[k]:=by simp[hk]
    show aw bU γc.w γc.Z γc.blk (eN.getD k .undef) _;rw[e];have Qn:k<args.length:=AT;exact(nB k eN[k] args[k] (by simp[hk]) (by simp[Qn])).rel h jf rfl (λhs id b o cap b9 hl hb=>.inr ⟨hs,id,o,cap,b9,hl,hb⟩) wC _ (Jt k _ (by simp[Qn]))
   ·have e:eN.getD k .undef=.undef:=by simp[hk]
    show aw bU γc.w γc.Z γc.blk (eN.getD k .undef) _;rw[e];exact .undef _
  ·intro j o ho;have hj:=(aR.1 ho).1;have C0:j<aj.length:=by rw[<- bn];exact hj
   have bI:=h.dx _ _ (rq j o ho);have hb:γc.blk j=γ.blk (aj.getD j 0):=by show(if j<aj.length then _ else _)=_;rw[if_pos C0]
   cases o with
   |gone=>trivial
   |var cells =>
    obtain⟨b,cap,cur,t,h1,h2,h3,h4⟩:=bI;exact⟨b,cap,cur,t,hb.trans h1,h2,by simpa using h3,λc v hv=>(h4 c (bj ρ v) (by simp[hv];rfl)).down jf wC v rfl⟩
   |mp ag L =>
    obtain⟨b,f,h1,h2,h3,h4⟩:=bI;refine⟨b,f,hb.trans h1,?_,λp hp=>h3 (p.1,bj ρ p.2) (CD (f:=λp:List Int×AV=>(p.1,bj ρ p.2)) hp),λj p hp=>(h4 j (p.1,bj ρ p.2) (by simp only[bV,hp];rfl)).down jf wC p.2 rfl⟩;rw[Jv,fF]at h2;exact h2
   |arr sz rows =>
    obtain⟨h0,hr,bI⟩:=bI;refine⟨h0,λrow bE=>by simpa using hr (row.map (bj ρ)) (CD bE),?_⟩;rcases bI with⟨h1,h2⟩|⟨b,o,cap,cur,t,h1,h2,h3,h4,h5,h6⟩
    ·exact .inl ⟨hb.trans h1,by simpa using h2⟩
    ·refine .inr ⟨b,o,cap,cur,t,hb.trans h1,h2,h3,by simpa using h4,h5,λr c v hv=>(h6 r c (bj ρ v) ?_).down jf wC v rfl⟩;simp only[cellAt,bV]at hv ⊢;cases dU:rows[r]? with
     |none=>simp[dU]at hv
     |some row=>simp[dU]at hv ⊢;exact⟨v,hv,rfl⟩
  ·intro i j b o c o' c' hi hj ep gJ;obtain⟨h1,h2⟩:=vg i hi;obtain⟨h3,h4⟩:=vg j hj;have e1:γc.blk i=γ.blk (aj.getD i 0):=by show(if i<aj.length then _ else _)=_;rw[if_pos h2]
   have e2:γc.blk j=γ.blk (aj.getD j 0):=by show(if j<aj.length then _ else _)=_;rw[if_pos h4]
   exact Qk bx h2 h4 (h.inj _ _ b o c o' c' h1 h3 (e1▸ep) (e2▸gJ))
  ·rintro b ⟨i,o,c,hi,hb⟩ hz;obtain⟨h1,h2⟩:=vg i hi;have e1:γc.blk i=γ.blk (aj.getD i 0):=by show(if i<aj.length then _ else _)=_;rw[if_pos h2]
   rw[e1]at hb;rcases hz with hz|⟨_,id,o',cap',b9,hl,aY⟩
   ·exact h.nz b ⟨_,o,c,h1,hb⟩ hz
   ·have:=h.inj _ _ b o c o' cap' h1 hl hb aY;exact b9 (this▸aE h2)
  ·rintro b (hb|⟨_,id,o,cap,_,hl,hb⟩)
   ·exact h.fV b hb
   ·exact wD hl hb
 have od:=hH.2 γc (by show argv.size=_;omega) Ju;refine od.mono ?_;rintro e w'⟨res,cV,cv,az,Jw,rfl,rfl,I3,iz,eR⟩;obtain⟨Qo,hK⟩:=hKP res cV Jw;have acN:aj.length<=cV.length:=by have:=eR.len;omega
 let new:=cV.map (bM ρ)
 have ak:aj.length<=new.length:=by simpa [new] using acN
 let ph:=gf σ.aa aj new
 let jg:Cx:={ w:=az.w,tmps:=γ.tmps,Z:=λb=>az.Z b/\¬ S b,blk:=λi=>if i<σ.aa.length then γ.blk i else az.blk (aj.length+(i-σ.aa.length)) }
 have nG:∀ j o,cV[j]?=some o->ph[ρ j]?=some (bM ρ o)/\(o≠.gone->jg.blk (ρ j)=az.blk j):=by
  intro j o ho;by_cases hj:j<aj.length
  ·have e:ρ j=aj.getD j 0:=by show bC _ _ _=_;simp only[bC];rw[if_pos hj]
   have cq:=iU _ (aE hj);refine⟨?_,λhg=>?_⟩
   ·rw[e];show(gf σ.aa aj new)[aj.getD j 0]?=_;rw[Fp aj σ.aa new ak bx iU j hj];simp[new,ho]
   ·rw[e];show(if aj.getD j 0<σ.aa.length then _ else _)=_;rw[if_pos cq];have:=(eR.dV j AT ⟨o,ho,hg⟩).1;rw[this];show _=if j<aj.length then _ else _;rw[if_pos hj]
  ·have e:ρ j=σ.aa.length+(j-aj.length):=by show bC _ _ _=_;simp only[bC];rw[if_neg hj]
   have e2:aj.length+(j-aj.length)=j:=AT;refine⟨?_,λhg=>?_⟩
   ·rw[e];show(gf σ.aa aj new)[_]?=_;rw[Qe aj σ.aa new ak,e2];simp[new,ho]
   ·rw[e];show(if σ.aa.length+(j-aj.length)<σ.aa.length then _ else az.blk (aj.length+(σ.aa.length+(j-aj.length)-σ.aa.length)))=_;rw[if_neg AT];congr 1;omega
 have Qp:∀ b,S b->¬ γ.Z b:=by
  rintro b⟨_,id,o,cap,_,hl,hb⟩;exact h.nz b ⟨id,o,cap,hl,hb⟩
 have Be:∀ b,oe bU γc.blk b->∃ i∈aj,∃ o cap,Live σ.aa i/\γ.blk i=some (b,o,cap):=by
  rintro b⟨j,o,c,hl,hb⟩;obtain⟨h1,h2⟩:=vg j hl;have e1:γc.blk j=γ.blk (aj.getD j 0):=by show(if j<aj.length then _ else _)=_;rw[if_pos h2]
  exact⟨_,aE h2,o,c,h1,e1▸hb⟩
 have Jx:∀ i,i ∉ aj->Live σ.aa i->∀ b o c,γ.blk i=some (b,o,c)->az.w.heap[b]?=γ.w.heap[b]?:=by
  intro i hi hl b o c hb;refine eR.dN b (wD hl hb) (λho=>?_);obtain⟨i',ar,o',c',jO,aY⟩:=Be b ho;have:=h.inj _ _ b o c o' c' hl jO hb aY;exact hi (this▸ar)
 have Jy:∀ v cv,aw σ.aa γ.w γ.Z γ.blk v cv->aw ph jg.w jg.Z jg.blk v cv:=by
  intro v cv hv;refine hv.mono (λb hb=>⟨⟨eR.z0 b (jf b hb),λhs=>Qp b hs hb⟩,?_⟩) (λi o ho=>?_)
  ·refine eR.dN b (h.fV b hb) (λho=>?_);obtain⟨i',_,o',c',jO,aY⟩:=Be b ho;exact h.nz b ⟨i',o',c',jO,aY⟩ hb
  ·have hi:=(aR.1 ho).1;have fI:jg.blk i=γ.blk i:=by show(if i<σ.aa.length then _ else _)=_;rw[if_pos hi]
   by_cases nH:i∈aj
   ·obtain⟨j,hj,rfl⟩:=Fu nH;have mh:j<cV.length:=AT;have zu:ph[aj.getD j 0]?=some (bM ρ cV[j]):=by
     show(gf σ.aa aj new)[aj.getD j 0]?=_;rw[Fp aj σ.aa new ak bx iU j hj];simp[new,mh]
    by_cases hg:cV[j]=.gone
    ·left;rw[zu,hg];rfl
    ·right;refine⟨fI,_,zu,?_⟩;obtain⟨_,x,x',hx,bW,jP⟩:=eR.dV j AT ⟨cV[j],by simp[mh],hg⟩;have e1:cV[j]=x':=by simpa [mh] using bW
     have e2:=rq j x hx;rw[ho]at e2;simp at e2;rw[e1,e2];exact Ob.acK jP
   ·have zu:ph[i]?=some o:=by
     show(gf σ.aa aj new)[i]?=_;rw[Fs aj σ.aa new ak i nH hi];exact ho
    by_cases hg:o=.gone
    ·subst hg;exact .inl zu
    ·exact .inr ⟨fI,o,zu,Ob.jh hg⟩
 have Fv:∀ v cv,aw cV az.w az.Z az.blk v cv->(snap=true->flat v=true)->aw ph jg.w jg.Z jg.blk (bj ρ v) cv:=by
  intro v cv hv gK;by_cases er:snap=true
  ·exact(hv.acJ (Z':=jg.Z) (gK er)).up (λb hb=>hb) nG
  ·exact hv.up (λb hb=>⟨hb,λhs=>er hs.1⟩) nG
 have ry:∀ i,Live ph i->(i<σ.aa.length/\i ∉ aj/\Live σ.aa i/\jg.blk i=γ.blk i)\/∃ j,Live cV j/\i=ρ j/\jg.blk i=az.blk j:=by
  rintro i⟨o,ho,hg⟩;have hlen:=(aR.1 ho).1;have Fq:ph.length=σ.aa.length+(new.length-aj.length):=Jl aj σ.aa new ak;have Bf:new.length=cV.length:=by simp[new]
  rcases du i σ.aa.length with hi|hi
  ·by_cases nH:i∈aj
   ·right;obtain⟨j,hj,rfl⟩:=Fu nH;have mh:j<cV.length:=AT;have e:ρ j=aj.getD j 0:=by show bC _ _ _=_;simp only[bC];rw[if_pos hj]
    have hx:=nG j cV[j] (by simp[mh]);rw[e]at hx;rw[ho]at hx;simp only[cy.injEq]at hx;have sM:cV[j]≠.gone:=by intro h0;apply hg;rw[hx.1,h0];rfl
    exact⟨j,⟨_,by simp[mh],sM⟩,e.symm,hx.2 sM⟩
   ·left;have:ph[i]?=σ.aa[i]?:=Fs aj σ.aa new ak i nH hi;rw[this]at ho;exact⟨hi,nH,⟨o,ho,hg⟩,by show(if i<σ.aa.length then _ else _)=_;rw[if_pos hi]⟩
  ·right;have mh:aj.length+(i-σ.aa.length)<cV.length:=AT;have e:ρ (aj.length+(i-σ.aa.length))=i:=by
    show bC _ _ _=_;simp only[bC];rw[if_neg AT];omega
   have hx:=nG _ _ (show cV[aj.length+(i-σ.aa.length)]?=some cV[aj.length+(i-σ.aa.length)] by simp[mh]);rw[e]at hx;rw[ho]at hx;simp only[cy.injEq]at hx;have sM:cV[aj.length+(i-σ.aa.length)]≠.gone:=by intro h0;apply hg;rw[hx.1,h0];rfl
   exact⟨_,⟨_,by simp[mh],sM⟩,e.symm,hx.2 sM⟩
 have Jz:∀ j b o c,Live cV j->az.blk j=some (b,o,c)->(∃ i∈aj,∃ o cap,Live σ.aa i/\γ.blk i=some (b,o,cap))\/γ.w.heap.size<=b:=by
  intro j b o c hl hb;rcases eR.own b ⟨j,o,c,hl,hb⟩ with h1|h1
  ·exact .inl (Be b h1)
  ·exact .inr h1
 have acO:bh ⟨σ.env,ph⟩ jg:=by
  refine⟨λk=>Jy _ _ (h.ao k),?_,?_,?_,?_,λg=>Jy _ _ (h.gl g)⟩
  ·intro i o ho;by_cases cG:o=.gone
   ·subst cG;trivial
   rcases ry i ⟨o,ho,cG⟩ with⟨hi,nH,hl,fI⟩|⟨j,⟨x,hx,eC⟩,rfl,fI⟩
   ·have he:ph[i]?=σ.aa[i]?:=Fs aj σ.aa new ak i nH hi;have cJ:σ.aa[i]?=some o:=by rw[<- he];exact ho
    exact(h.dx i o cJ).mono Jy fI (λb o c hb=>Jx i nH hl b o c hb)
   ·have zw:=(nG j x hx).1;have e:o=bM ρ x:=by
     have:ph[ρ j]?=some o:=ho;rw[zw]at this;simpa using this.symm
    subst e;have bI:=iz.dx j x hx;have gK:snap=true->A4 x:=λhs=>(Qo hs).2 x (gY hx);cases x with
    |gone=>trivial
    |var cells =>
     obtain⟨b,cap,cur,t,h1,h2,h3,h4⟩:=bI;refine⟨b,cap,cur,t,fI.trans h1,h2,by simpa using h3,λc v hv=>?_⟩;simp only[bV,uV]at hv;obtain⟨y,hy,rfl⟩:=hv;exact Fv _ _ (h4 c y hy) (λhs=>gK hs y (gY hy))
    |mp ag L =>
     obtain⟨b,f,h1,h2,h3,h4⟩:=bI;refine⟨b,f,fI.trans h1,?_,λp hp=>?_,λj p hp=>?_⟩
     ·rw[Jv,fF];exact h2
     ·obtain⟨y,hy,rfl⟩:=bS.1 hp;exact h3 y hy
     ·simp only[bV,uV]at hp;obtain⟨y,hy,rfl⟩:=hp;exact Fv _ _ (h4 j y hy) (λhs=>gK hs y (gY hy))
    |arr sz rows =>
     obtain⟨h0,hr,bI⟩:=bI;refine⟨h0,?_,?_⟩
     ·intro row bE;simp only[bS]at bE;obtain⟨y,hy,rfl⟩:=bE;simpa using hr y hy
     ·rcases bI with⟨h1,h2⟩|⟨b,o,cap,cur,t,h1,h2,h3,h4,h5,h6⟩
      ·exact .inl ⟨fI.trans h1,by simpa using h2⟩
      ·refine .inr ⟨b,o,cap,cur,t,fI.trans h1,h2,h3,by simpa using h4,h5,λr c v hv=>?_⟩;simp only[cellAt,bV]at hv;cases dU:rows[r]? with
       |none=>simp[dU]at hv
       |some row =>
        simp only[dU,gF,Option.bind_some,bV,uV]at hv;obtain⟨y,hy,rfl⟩:=hv;exact Fv _ _ (h6 r c y (by simp[cellAt,dU,hy])) (λhs=>gK hs row (gY dU) y (gY hy))
  ·intro i j b o c o' c' hi hj ep gJ;rcases ry i hi with⟨mO,nH,k8,fI⟩|⟨ji,ig,rfl,fI⟩<;>rcases ry j hj with⟨gy,C0,Fw,C1⟩|⟨jj,Qq,rfl,C1⟩
   ·exact h.inj i j b o c o' c' k8 Fw (fI▸ep) (C1▸gJ)
   ·rw[fI]at ep;rw[C1]at gJ;rcases Jz jj b o' c' Qq gJ with⟨i',ar,o1,c1,jO,aY⟩|gM
    ·exact absurd (h.inj i i' b o c o1 c1 k8 jO ep aY) (λe=>nH (e▸ar))
    ·have:=wD k8 ep;omega
   ·rw[fI]at ep;rw[C1]at gJ;rcases Jz ji b o c ig ep with⟨i',ar,o1,c1,jO,aY⟩|gM
    ·exact absurd (h.inj j i' b o' c' o1 c1 Fw jO gJ aY) (λe=>C0 (e▸ar))
    ·have:=wD Fw gJ;omega
   ·rw[fI]at ep;rw[C1]at gJ;rw[iz.inj ji jj b o c o' c' ig Qq ep gJ]
  ·rintro b ⟨i,o,c,hi,hb⟩ ⟨hz,xZ⟩;rcases ry i hi with⟨mO,nH,k8,fI⟩|⟨ji,ig,rfl,fI⟩
   ·rw[fI]at hb;rcases eR.z1 b hz with(h1|h1)|h1|h1
    ·exact h.nz b ⟨i,o,c,k8,hb⟩ h1
    ·exact xZ h1
    ·obtain⟨i',ar,o1,c1,jO,aY⟩:=Be b h1;exact nH ((h.inj i i' b o c o1 c1 k8 jO hb aY)▸ar)
    ·have:=wD k8 hb;have Bg:γ.w.heap.size<=b:=h1;omega
   ·rw[fI]at hb;exact iz.nz b ⟨ji,o,c,ig,hb⟩ hz
  ·rintro b ⟨hz,_⟩;exact iz.fV b hz
 refine⟨cv,bj ρ res,⟨σ.env,ph⟩,jg,rfl,rfl,rfl,acO,?_,?_,hK,rfl⟩
 ·refine⟨eR.kD,eR.tape,eR.output,eR.size,?_,?_,?_,?_,?_,?_,eR.drawn⟩
  ·intro b hb qo;refine eR.dN b hb (λho=>qo ?_);obtain⟨i',_,o1,c1,jO,aY⟩:=Be b ho;exact⟨i',o1,c1,jO,aY⟩
  ·intro b hb;exact⟨eR.z0 b (jf b hb),λhs=>Qp b hs hb⟩
  ·rintro b ⟨hz,xZ⟩;rcases eR.z1 b hz with(h1|h1)|h1|h1
   ·exact .inl h1
   ·exact absurd h1 xZ
   ·obtain⟨i',_,o1,c1,jO,aY⟩:=Be b h1;exact .inr (.inl ⟨i',o1,c1,jO,aY⟩)
   ·exact .inr (.inr h1)
  ·rintro b ⟨i,o,c,hi,hb⟩;rcases ry i hi with⟨mO,nH,k8,fI⟩|⟨ji,ig,rfl,fI⟩
   ·rw[fI]at hb;exact .inl ⟨i,o,c,k8,hb⟩
   ·rw[fI]at hb;rcases Jz ji b o c ig hb with⟨i',_,o1,c1,jO,aY⟩|gM
    ·exact .inl ⟨i',o1,c1,jO,aY⟩
    ·exact .inr gM
  ·show σ.aa.length<=(gf σ.aa aj new).length;rw[Jl aj σ.aa new ak];omega
  ·rintro i hi ⟨o,ho,hg⟩;refine⟨by show(if i<σ.aa.length then _ else _)=_;rw[if_pos hi],?_⟩;by_cases nH:i∈aj
   ·obtain⟨j,hj,rfl⟩:=Fu nH;have mh:j<cV.length:=AT;have zu:ph[aj.getD j 0]?=some (bM ρ cV[j]):=by
     show(gf σ.aa aj new)[aj.getD j 0]?=_;rw[Fp aj σ.aa new ak bx iU j hj];simp[new,mh]
    have dz:ph[aj.getD j 0]?=some o:=ho;rw[zu]at dz;simp only[cy.injEq]at dz;have sM:cV[j]≠.gone:=by intro h0;apply hg;rw[<- dz,h0];rfl
    obtain⟨_,x,x',hx,bW,jP⟩:=eR.dV j AT ⟨cV[j],by simp[mh],sM⟩;have e1:cV[j]=x':=by simpa [mh] using bW
    refine⟨bM ρ x,o,rq j x hx,ho,?_⟩;rw[<- dz,e1];cases x<;>cases x'<;>simp_all [Ob.dI,bM]
   ·have he:ph[i]?=σ.aa[i]?:=Fs aj σ.aa new ak i nH hi;have cJ:σ.aa[i]?=some o:=by rw[<- he];exact ho
    exact⟨o,o,cJ,ho,Ob.jh hg⟩
 ·have:=iz.ao 0;rw[I3]at this;exact Fv res cv (by simpa using this) (λhs=>(Qo hs).1)
def Holds.r{f:FuncId}{args:List AV}{aa:List Ob}{res:AV}{ba:List Ob}(h:Holds P f args aa res ba):dy P f args aa (λr os=>r=res/\os=ba) :=
 ⟨h.1,λγ aJ hs=>(h.2 γ aJ hs).mono λ_ _ ⟨cv,az,h1,h2,h3,h4,h5⟩=>⟨res,ba,cv,az,⟨rfl,rfl⟩,h1,h2,h3,h4,h5⟩⟩
def Ft.r{f:FuncId}{args:List AV}{σ:St}{K:AV->St->Prop}(h:Ft P f args σ K):Js P f args σ K:=by
 obtain⟨aj,snap,eN,bU,res,cV,h1,⟨h2,h3,h4,h5,h6,h7⟩,h8⟩:=h;exact⟨aj,snap,eN,bU,_,h1.r,⟨h2,h3,h4,h5,h6⟩,λr os ⟨e1,e2⟩=>by subst e1;subst e2;exact⟨h7,h8⟩⟩
def Qr{σ:St}{γ:Cx}(h:bh σ γ){f:FuncId}{args:List AV}{argv:Array Value}(aJ:argv.size=args.length)(Jt:∀ (j:Nat) d,args[j]?=some d->aw σ.aa γ.w γ.Z γ.blk d (argv.getD j Go.undef)){K:AV->St->Prop}(hc:Ft P f args σ K):
  Calls P f argv γ.w (λe w'=>∃ cv v σ' az,e=.returned cv/\az.w=w'/\az.tmps=γ.tmps/\bh σ' az/\Fr σ.aa γ σ'.aa az/\aw σ'.aa az.w az.Z az.blk v cv/\K v σ'/\σ'.env=σ.env) :=
 Qm h aJ Jt hc.r
end Go.Am
namespace Go.Am
variable {P:Program}
def bh.select{σ:St}{γ:Cx}(h:bh σ γ)(aj:List Nat)(snap:Bool)(bU:List Ob)(bx:aj.Nodup)(bn:bU.length=aj.length)(rq:∀ (j:Nat) o,bU[j]?=some o->o=.gone\/σ.aa[aj.getD j 0]?=some (bM (bC σ.aa.length aj) o))(iU:∀ i∈aj,i<σ.aa.length)(e:Nat->AV)(tm:Array Value)(he:∀ k,e k=.undef\/∃ d,bT σ (λid=>∃ j,j<aj.length/\aj.getD j 0=id/\bU[j]?≠some .gone) (bC σ.aa.length aj) snap (e k) d/\aw σ.aa γ.w γ.Z γ.blk d (tm.getD k Go.undef)):
  ∃ az,az.w=γ.w/\az.tmps=tm/\bh ⟨e,bU⟩ az/\((∀ i,i<bU.length->az.blk i=γ.blk (aj.getD i 0))/\(∀ b,γ.Z b->az.Z b)/\(∀ b,az.Z b->γ.Z b\/oe σ.aa γ.blk b) /\
   ∀ i,Live bU i->Live σ.aa (aj.getD i 0)/\∃ o,bU[i]?=some o/\σ.aa[aj.getD i 0]?=some (bM (bC σ.aa.length aj) o)):=by
 let ρ:=bC σ.aa.length aj
 let kp:Nat->Prop:=λid=>∃ j,j<aj.length/\aj.getD j 0=id/\bU[j]?≠some .gone
 let S:Nat->Prop:=λb=>snap=true/\∃ id o cap,¬ kp id/\Live σ.aa id/\γ.blk id=some (b,o,cap)
 let γc:Cx:={ w:=γ.w,tmps:=tm,Z:=λb=>γ.Z b\/S b,blk:=λj=>if j<aj.length then γ.blk (aj.getD j 0) else none }
 have wC:∀ j x,σ.aa[ρ j]?=some x->∃ o,bU[j]?=some o/\(o=.gone\/(x=bM ρ o/\γc.blk j=γ.blk (ρ j))):=by
  intro j x hx;obtain⟨hj,hr⟩:=Qj iU (aR.1 hx).1;have mh:j<bU.length:=AT;refine⟨bU[j],by simp[mh],?_⟩;rcases rq j bU[j] (by simp[mh]) with hg|this
  ·exact .inl hg
  ·right;refine⟨?_,?_⟩
   ·have bW:σ.aa[bC σ.aa.length aj j]?=some x:=hx;rw[hr,this]at bW;simpa using bW.symm
   ·show(if j<aj.length then γ.blk (aj.getD j 0) else none)=γ.blk (bC σ.aa.length aj j);rw[if_pos hj,hr]
 have jf:∀ b,γ.Z b->γc.Z b:=λb hb=>.inl hb;have vg:∀ j,Live bU j->Live σ.aa (aj.getD j 0)/\j<aj.length/\kp (aj.getD j 0)/\∃ o,bU[j]?=some o/\σ.aa[aj.getD j 0]?=some (bM ρ o):=by
  rintro j⟨o,ho,hg⟩;have hj:=(aR.1 ho).1;rcases rq j o ho with h'|h'
  ·exact absurd h' hg
  ·exact⟨⟨_,h',λe=>hg (CX.1 e)⟩,AT,⟨j,AT,rfl,by rw[ho];simpa using hg⟩,o,ho,h'⟩
 have rz:∀ j,j<aj.length->γc.blk j=γ.blk (aj.getD j 0):=λj hj=>by show(if j<aj.length then _ else _)=_;rw[if_pos hj]
 have Ju:bh ⟨e,bU⟩ γc:=by
  refine⟨λk=>?_,?_,?_,?_,?_,λg=>xY (h.gl g) λb hb=>⟨jf b hb,rfl⟩⟩
  ·rcases he k with h0|⟨d,hd,hr⟩
   ·show aw bU γc.w γc.Z γc.blk (e k) _;rw[h0];exact .undef _
   ·exact hd.rel h jf rfl (λhs id b o cap b9 hl hb=>.inr ⟨hs,id,o,cap,b9,hl,hb⟩) wC _ hr
  ·intro j o ho;by_cases cG:o=.gone
   ·subst cG;trivial
   obtain⟨_,C0,_,o',cJ,acP⟩:=vg j ⟨o,ho,cG⟩;have:o=o':=by
    have h1:bU[j]?=some o:=ho;rw[cJ]at h1;simpa using h1.symm
   subst this;have bI:=h.dx _ _ acP;have hb:=rz j C0;cases o with
   |gone=>trivial
   |var cells =>
    obtain⟨b,cap,cur,t,h1,h2,h3,h4⟩:=bI;exact⟨b,cap,cur,t,hb.trans h1,h2,by simpa using h3,λc v hv=>(h4 c (bj ρ v) (by simp only[bV,hv];rfl)).down jf wC v rfl⟩
   |mp ag L =>
    obtain⟨b,f,h1,h2,h3,h4⟩:=bI;refine⟨b,f,hb.trans h1,?_,λp hp=>h3 (p.1,bj ρ p.2) (CD (f:=λp:List Int×AV=>(p.1,bj ρ p.2)) hp),λj p hp=>(h4 j (p.1,bj ρ p.2) (by simp only[bV,hp];rfl)).down jf wC p.2 rfl⟩;rw[Jv,fF]at h2;exact h2
   |arr sz rows =>
    obtain⟨h0,hr,bI⟩:=bI;refine⟨h0,λrow bE=>by simpa using hr (row.map (bj ρ)) (CD bE),?_⟩;rcases bI with⟨h1,h2⟩|⟨b,o,cap,cur,t,h1,h2,h3,h4,h5,h6⟩
    ·exact .inl ⟨hb.trans h1,by simpa using h2⟩
    ·refine .inr ⟨b,o,cap,cur,t,hb.trans h1,h2,h3,by simpa using h4,h5,λr c v hv=>(h6 r c (bj ρ v) ?_).down jf wC v rfl⟩;simp only[cellAt,bV]at hv ⊢;cases dU:rows[r]? with
     |none=>simp[dU]at hv
     |some row=>simp[dU]at hv ⊢;exact⟨v,hv,rfl⟩
  ·intro i j b o c o' c' hi hj ep gJ;obtain⟨h1,h2,_⟩:=vg i hi;obtain⟨h3,h4,_⟩:=vg j hj;exact Qk bx h2 h4 (h.inj _ _ b o c o' c' h1 h3 (rz i h2▸ep) (rz j h4▸gJ))
  ·rintro b ⟨i,o,c,hi,hb⟩ hz;obtain⟨h1,h2,h3,_⟩:=vg i hi;rw[rz i h2]at hb;rcases hz with hz|⟨_,id,o',cap',b9,hl,aY⟩
   ·exact h.nz b ⟨_,o,c,h1,hb⟩ hz
   ·have:=h.inj _ _ b o c o' cap' h1 hl hb aY;exact b9 (this▸h3)
  ·rintro b (hb|⟨_,id,o,cap,_,hl,hb⟩)
   ·exact h.fV b hb
   ·exact h.blt hl hb
 refine⟨γc,rfl,rfl,Ju,λi hi=>rz i AT,jf,?_,?_⟩
 ·rintro b (hb|⟨_,id,o,cap,_,hl,hb⟩)
  ·exact .inl hb
  ·exact .inr ⟨id,o,cap,hl,hb⟩
 ·intro i hi;obtain⟨h1,h2,_,h4⟩:=vg i hi;exact⟨h1,h4⟩
def Ob.acQ{ρ:Nat->Nat}{x o:Ob}(h:x.dI (bM ρ o)):x.dI o:=by
 cases x<;>cases o<;>simp[Ob.dI,bM]at h ⊢<;>exact h
def Fr.select{os:List Ob}{γ0 γ az:Cx}{σ:St}(hf:Fr os γ0 σ.aa γ){aj:List Nat}{bU:List Ob}(hn:os.length<=aj.length)(bn:bU.length=aj.length)(b9:∀ i,i<os.length->aj.getD i 0=i)(hw:az.w=γ.w)(h:(∀ i,i<bU.length->az.blk i=γ.blk (aj.getD i 0))/\(∀ b,γ.Z b->az.Z b)/\(∀ b,az.Z b->γ.Z b\/oe σ.aa γ.blk b) /\
   ∀ i,Live bU i->Live σ.aa (aj.getD i 0)/\∃ o,bU[i]?=some o/\σ.aa[aj.getD i 0]?=some (bM (bC σ.aa.length aj) o)):Fr os γ0 bU az:=by
 obtain⟨h1,h2,h3,h4⟩:=h;refine⟨by rw[hw];exact hf.kD,by rw[hw];exact hf.tape,by rw[hw];exact hf.output,by rw[hw];exact hf.size,by rw[hw];exact hf.dN,λb hb=>h2 b (hf.z0 b hb),?_,?_,AT,?_,by rw[hw];exact hf.drawn⟩
 ·intro b hb;rcases h3 b hb with h|h
  ·exact hf.z1 b h
  ·rcases hf.own b h with h|h
   ·exact .inr (.inl h)
   ·exact .inr (.inr h)
 ·rintro b ⟨i,o,c,hi,hb⟩;have aS:=hi.lt;rw[h1 i aS]at hb;exact hf.own b ⟨_,o,c,(h4 i hi).1,hb⟩
 ·intro i hi hl;obtain⟨h5,o,ho,cJ⟩:=h4 i hl;rw[b9 i hi]at h5 cJ;obtain⟨h6,x,x',hx,bW,hk⟩:=hf.dV i hi h5;refine⟨by rw[h1 i hl.lt,b9 i hi];exact h6,x,o,hx,ho,?_⟩;rw[cJ]at bW;simp only[cy.injEq]at bW;rw[<- bW]at hk;exact Ob.acQ hk
def h9(N:Nat)(os:List Ob)(γ0:Cx)(σ:St)(a:Act)(w:World):Prop :=
 a.defers=[]/\a.tmps.size=N/\∃ γ,γ.w=w/\γ.tmps=a.tmps/\bh σ γ/\Fr os γ0 σ.aa γ
def W(P:Program)(N n0:Nat)(c:Code)(Q:Exit->St->Prop)(σ:St):Prop :=
 ∀ (os:List Ob) (γ0:Cx) (a:Act) (w:World),os.length=n0->h9 N os γ0 σ a w->c.wp P (λe a' w'=>∃ σ',Q e σ'/\h9 N os γ0 σ' a' w') a w
def tX(P:Program)(g:FuncId)(args:List AV)(dst:Option Tmp)(K:St->Prop)(σ:St):Prop:=Ft P g args σ λv σ'=>K (σ'.put dst v)
def E7(P:Program)(t:TypeId)(m:String):Option (FuncId×Option TypeId) :=
 match P.info? t with
 |none=>none
 |some i =>
  match i.methods.find? (·.name==m) with
  |none=>none
  |some r =>
   match r.path.isEmpty,r.func,P.underlying t with
   |true,some (g,pr),some (.pointer e)=>some (g,if pr then none else some e)
   |_,_,_=>none
def o5(P:Program)(σ:St)(v:AV)(K:FuncId->AV->Prop):Option (FuncId×Option TypeId)->Prop
 |some (g,none)=>K g v
 |some (g,some e) =>
  (ty P e).kind≠99 /\
  match v with
  |.ptr id r c =>
   match rowOf σ id r with
   |some row=>ma (ty P e) row c λx=>K g x
   |none=>False
  |_=>False
 |none=>False
def aH(P:Program)(o:Oper)(σ:St)(K:St->Prop):Prop :=
 match o.op with
 |.call { callee:=.value f,args,.. } =>
  match ev σ f with
  |.fn g bF=>tX P g (args.toList.map (ev σ)++bF) o.dst K σ
  |_=>False
 |.call { callee:=.invoke r m,args,.. } =>
  match ev σ r with
  |.hZ t v=>o5 P σ v (λg x=>tX P g (x::args.toList.map (ev σ)) o.dst K σ) (E7 P t m)
  |_=>False
 |_=>b8 P o σ K
def og(P:Program)(o:Oper)(K:St->Prop)(b want:Bool)(σ:St):Prop:=(b=want->aH P o σ K)/\(b≠want->K (σ.put o.dst (.lit (.tuple #[]))))
def opsL(P:Program)(ops:Array Oper):List Oper->(St->Prop)->St->Prop
 |[],K,σ=>K σ
 |o::r,K,σ =>
  match o.guard with
  |none=>aH P o σ (opsL P ops r K)
  |some (j,want) =>
   match (ops[j]?).bind (·.dst) with
   |none=>False
   |some d =>
    match σ.env d with
    |.lit (.bool b)=>og P o (opsL P ops r K) b want σ
    |.lit (.tuple vs)=>vs = #[]/\opsL P ops r K (σ.put o.dst (.lit (.tuple #[])))
    |_=>False
def tZ(a:Act)(d:Option Tmp)(v:Value):(a.put d v).tmps.size=a.tmps.size:=by cases d<;>simp[Act.put]
def put_defers(a:Act)(d:Option Tmp)(v:Value):(a.put d v).defers=a.defers:=by cases d<;>rfl
def acR(xt:TypeId)(a:Addr)(x y:String):Builtin.ssaWrapNilChk_ #[xt] xt #[.pointer (some a),strVal x,strVal y]=pure (.pointer (some a)):=rfl
def Qs{w:World}{t:TypeId}{i:TypeInfo}(h:P.info? t=some i):(typeInfo t).run P w=.ok i w:=by
 simp[typeInfo,h]
def ext1(x:Value)(A:Array Value):(#[x]++A).extract 1 (#[x]++A).size=A:=by
 apply Array.ext';simp only[Array.toList_extract,List.extract,CC,Array.size_append];simp[List.take_of_length_le]
def acS{σ:St}{γ:Cx}(hs:bh σ γ){t:TypeId}{m:String}{v:AV}{cv:Value}(hv:aw σ.aa γ.w γ.Z γ.blk v cv){K:FuncId->AV->Prop}(h:o5 P σ v K (E7 P t m)):
  ∃ g x cx,(Go.method (P.types.size+Made.depth) t cv m).run P γ.w=.ok (g,cx) γ.w/\aw σ.aa γ.w γ.Z γ.blk x cx/\K g x:=by
 obtain⟨fu,hfu⟩:∃fu,P.types.size+Made.depth=fu+1:=Nat.exists_eq_succ_of_ne_zero (by unfold Made.depth;omega);rw[hfu];unfold Go.method;unfold E7 at h;cases hi:P.info? t with
 |none=>simp[hi,o5]at h
 |some i =>
  simp only[hi]at h;cases hf:i.methods.find? (·.name==m) with
  |none=>simp[hf,o5]at h
  |some r =>
   simp only[hf]at h;split at h
   ·rename_i g pr e hp hr hu;have vh:r.path = #[]:=Array.isEmpty_iff.1 hp;cases pr with
    |true =>
     simp only[if_pos,o5]at h;refine⟨g,v,cv,?_,hv,h⟩;simp[Qs hi,hf,vh,follow,hr,receiverAt,run_underlying hu,Place.get]
    |false =>
     simp only[if_neg,Bool.false_eq_true,not_false_eq_true,o5]at h;obtain⟨hk,h⟩:=h;cases v with
     |ptr id rr c =>
      simp only at h;cases bE:rowOf σ id rr with
      |none=>simp[bE]at h
      |some row =>
       simp only[bE]at h;obtain⟨x,cx,h1,h2,h3⟩:=JA hs hk hv bE h;refine⟨g,x,cx,?_,h2,h3⟩;obtain⟨b,base,cap,cur,tt,o,rfl,_⟩:=Fx hs hv bE;simp only[Instr.loadAt,Instr.sureAddr,Sem.run_bind,Sem.run_pure,Result.andThen_ok]at h1;simp[Qs hi,hf,vh,follow,hr,receiverAt,run_underlying hu,Place.get,acR,asAddr,h1]
     |_=>exact h.elim
   ·exact h.elim
def xT{N:Nat}{os:List Ob}{γ0:Cx}{o:Oper}{σ:St}{K:St->Prop}(h:aH P o σ K){a:Act}{w:World}(aA:h9 N os γ0 σ a w)(hd:∀ d,o.dst=some d->d<N){Q:Exit->Act->World->Prop}{next:Act->World->Prop}(hn:∀ σ' a' w',K σ'->h9 N os γ0 σ' a' w'->next a' w'):o.wp P a w next Q:=by
 obtain⟨gH,aJ,γ,rfl,ha,hs,hf⟩:=aA;have wE:∀ d,o.dst=some d->d<a.tmps.size:=λd h=>by rw[aJ];exact hd d h
 have acU:b8 P o σ K->o.wp P a γ.w next Q:=by
  intro h;obtain⟨n,x,w',σ',az,hr,rA,hK,iz,eR,qq,jM⟩:=acV h hs ha wE;unfold Oper.wp;rw[hr];have dj:h9 N os γ0 σ' (a.put o.dst x) w':=⟨by rw[put_defers];exact gH,by rw[tZ];exact aJ,az,qq,jM,iz,hf.trans eR⟩;rcases rA with rfl|⟨rfl,rfl⟩
  ·exact hn _ _ _ hK dj
  ·exact hn _ _ _ hK dj
 unfold aH at h;split at h
 ·rename_i f args dh dt;split at h
  ·rename_i g bF he;have ef:=sN hs ha f;rw[he]at ef;obtain⟨bd,aQ,gG,rB⟩:=ef.Qt;have nB:∀ (j:Nat) d,(args.toList.map (ev σ)++bF)[j]?=some d->aw σ.aa γ.w γ.Z γ.blk d (((args.map a.eval)++bd).getD j Go.undef):=by
    intro j d hj;simp only[eA];rcases du j args.size with aS|gM
    ·rw[eL (by simpa using aS)]at hj;rw[EY (by simpa using aS)];simp only[bV,CE,N8]at hj ⊢;cases hx:args[j]? with
     |none=>simp[hx]at hj
     |some y=>simp[hx]at hj ⊢;subst hj;exact sN hs ha y
    ·rw[gZ (by simpa using gM)]at hj;rw[Array.getElem?_append_right (by simpa using gM)];simp only[fF,Array.length_toList,Array.size_map]at hj ⊢;have:=rB _ d hj;simpa [eA] using this
   unfold tX at h;have od:=Qr hs (argv:=(args.map a.eval)++bd) (by simp[gG]) nB h;obtain⟨aj,snap,eN,bU,res,cV,⟨⟨fn,wF,rC,x7⟩,_⟩,_⟩:=h;unfold Oper.wp;have hr:(execOp a.eval o).run P γ.w=.ok (.enter g ((args.map a.eval)++bd)) γ.w:=by
    have k9 : ¬ fn.name = "runtime.NumGoroutine" := by simpa using rC
    have nI:¬ fn.body=none:=by intro e;rw[e]at x7;simp at x7
    simp[execOp,dt,resolve,aQ,Deferred.ofValue,invoke,callFunc,wF,k9,nI]
   rw[hr];show Calls P g _ _ _;refine od.mono ?_;rintro e w'⟨cv,v,σ',az,rfl,rfl,jM,iz,eR,hv,hK,sP⟩;refine hn _ _ _ hK ⟨by rw[put_defers];exact gH,by rw[tZ];exact aJ,{ az with tmps:=(a.put o.dst cv).tmps },rfl,rfl,rm iz (by rw[jM,ha]) wE hv,?_⟩;rw[qh];exact(hf.trans eR).put _
  ·exact h.elim
 ·rename_i r m args dh dt;split at h
  ·rename_i t v he;have ef:=sN hs ha r;rw[he]at ef;obtain⟨Fy,aQ,rB⟩:=ef.Qu;obtain⟨g,x,cx,hm,hx,h⟩:=acS hs rB h;have nB:∀ (j:Nat) d,(x::args.toList.map (ev σ))[j]?=some d->aw σ.aa γ.w γ.Z γ.blk d ((#[cx]++args.map a.eval).getD j Go.undef):=by
    intro j d hj;simp only[eA];cases j with
    |zero =>
     simp only[uW,cy.injEq]at hj;subst hj;rw[EY IM];simpa using hx
    |succ j =>
     simp only[r9,bV,CE]at hj;rw[Array.getElem?_append_right IM];simp only[List.size_toArray,cX,List.length_nil,Nat.zero_add,Nat.add_sub_cancel,N8];cases hy:args[j]? with
     |none=>simp[hy]at hj
     |some y=>simp[hy]at hj ⊢;subst hj;exact sN hs ha y
   unfold tX at h;have od:=Qr hs (argv:=#[cx]++args.map a.eval) N0 nB h;obtain⟨aj,snap,eN,bU,res,cV,⟨⟨fn,wF,rC,x7⟩,_⟩,_⟩:=h;unfold Oper.wp;have hr:(execOp a.eval o).run P γ.w=.ok (.enter g (#[cx]++args.map a.eval)) γ.w:=by
    have k9 : ¬ fn.name = "runtime.NumGoroutine" := by simpa using rC
    have nI:¬ fn.body=none:=by intro e;rw[e]at x7;simp at x7
    have e0:(#[Value.iface t Fy]++args.map a.eval)[0]?=some (.iface t Fy):=by rw[EY IM];simp
    have e1:=ext1 (.iface t Fy) (args.map a.eval);have e2:(callMethod (.iface t Fy) m (args.map a.eval)).run P γ.w=.ok (.enter g (#[cx]++args.map a.eval)) γ.w:=by
     unfold callMethod;simp only[Sem.run_bind,run_program,Result.andThen_ok,hm];simp[callFunc,wF,k9,nI]
    simp only[execOp,dt,resolve,aQ,pure_bind,invoke,e0,e1];exact e2
   rw[hr];show Calls P g _ _ _;refine od.mono ?_;rintro e w'⟨cv,v,σ',az,rfl,rfl,jM,iz,eR,hv,hK,sP⟩;refine hn _ _ _ hK ⟨by rw[put_defers];exact gH,by rw[tZ];exact aJ,{ az with tmps:=(a.put o.dst cv).tmps },rfl,rfl,rm iz (by rw[jM,ha]) wE hv,?_⟩;rw[qh];exact(hf.trans eR).put _
  ·exact h.elim
 ·exact acU h
def C2{N:Nat}{os:List Ob}{γ0:Cx}{ops:Array Oper}(hd:∀ o∈ops.toList,∀ d,o.dst=some d->d<N){K:St->Prop}{Q:Exit->Act->World->Prop}(hQ:∀ σ' a' w',K σ'->h9 N os γ0 σ' a' w'->Q .normal a' w'):∀ (l:List Oper) (i:Nat) (σ:St) (a:Act) (w:World),ops.toList.drop i=l->opsL P ops l K σ->h9 N os γ0 σ a w ->
   wpOps P ops Q (List.range' i l.length) a w
 |[],i,σ,a,w,_,h,aA=>by simpa [wpOps] using hQ _ _ _ h aA
 |o::r,i,σ,a,w,hl,h,aA=>by
  have hi:ops[i]?=some o:=by
   have:(ops.toList.drop i)[0]?=some o:=by rw[hl];rfl
   simpa using this
  have hr:ops.toList.drop (i+1)=r:=by
   have:=congrArg List.tail hl;simpa [List.tail_drop] using this
  have cq:o∈ops.toList:=gY (by simpa using hi);rw[cX,List.range'_succ,wpOps_cons];unfold wpOp;simp only[hi];unfold opsL at h;cases hg:o.guard with
  |none =>
   simp only[hg]at h;have hw:Region.wanted o (yielded ops a.tmps)=true:=by simp[Region.wanted,hg]
   rw[if_pos hw];left;exact xT h aA (hd o cq) (λσ' a' w' hK dj=>C2 hd hQ r (i+1) σ' a' w' hr hK dj)
  |some jw =>
   obtain⟨j,want⟩:=jw;simp only[hg]at h;cases dO:(ops[j]?).bind (·.dst) with
   |none=>simp[dO]at h
   |some d =>
    simp only[dO]at h;split at h
    ·rename_i b he;obtain⟨gH,aJ,γ,rfl,ha,hs,hf⟩:=aA;have jd:=hs.ao d;rw[he,ha]at jd;have hv:=jd.cD;have hy:yielded ops a.tmps j=some b:=by
      unfold yielded;rw[dO];have:a.tmps[d]?=some (.bool b):=by
       rw[eA]at hv;cases hx:a.tmps[d]? with
       |none=>rw[hx]at hv;simp[Go.undef]at hv
       |some y=>rw[hx]at hv;simp at hv;rw[hv]
      simp[this]
     by_cases gj:b=want
     ·have hw:Region.wanted o (yielded ops a.tmps)=true:=by simp[Region.wanted,hg,hy,gj]
      rw[if_pos hw];left;exact xT (h.1 gj) ⟨gH,aJ,γ,rfl,ha,hs,hf⟩ (hd o cq) (λσ' a' w' hK dj=>C2 hd hQ r (i+1) σ' a' w' hr hK dj)
     ·have hw:Region.wanted o (yielded ops a.tmps)=false:=by simp[Region.wanted,hg,hy,gj]
      rw[if_neg (by rw[hw];simp)];refine C2 hd hQ r (i+1) _ _ _ hr (h.2 gj) ⟨by rw[put_defers];exact gH,by rw[tZ];exact aJ,{ γ with tmps:=(a.put o.dst Go.undef).tmps },rfl,rfl,rm hs ha (λd h=>by rw[aJ];exact hd o cq d h) (.lit _),?_⟩;rw[qh];exact hf.put _
    ·rename_i vs he;obtain⟨gH,aJ,γ,rfl,ha,hs,hf⟩:=aA;have jd:=hs.ao d;rw[he,ha]at jd;have hv:=jd.cD;have hy:yielded ops a.tmps j=none:=by
      unfold yielded;rw[dO];rw[eA]at hv;cases hx:a.tmps[d]? with
      |none=>simp[hx]
      |some y=>rw[hx]at hv;simp at hv;subst hv;simp[hx]
     have hw:Region.wanted o (yielded ops a.tmps)=false:=by simp[Region.wanted,hg,hy]
     rw[if_neg (by rw[hw];simp)];refine C2 hd hQ r (i+1) _ _ _ hr h.2 ⟨by rw[put_defers];exact gH,by rw[tZ];exact aJ,{ γ with tmps:=(a.put o.dst Go.undef).tmps },rfl,rfl,rm hs ha (λd h=>by rw[aJ];exact hd o cq d h) (.lit _),?_⟩;rw[qh];exact hf.put _
    ·exact h.elim
end Go.Am
namespace Go.Am
variable {P:Program} {N n0:Nat} {Q:Exit->St->Prop} {σ:St}
def Qv{c:Code}{Q':Exit->St->Prop}(h:W P N n0 c Q σ)(hq:∀ e s,Q e s->Q' e s):W P N n0 c Q' σ :=
 λos γ0 a w hn aA=>wp_mono (h os γ0 a w hn aA) (λ_ _ _ ⟨σ',h1,h2⟩=>⟨σ',hq _ _ h1,h2⟩)
def Qw(h:Q .normal σ):W P N n0 .skip Q σ:=λ_ _ _ _ _ aA=>wp_skip ⟨σ,h,aA⟩
def acW{l:Nat}(h:Q .normal σ):W P N n0 (.label l) Q σ:=λ_ _ _ _ _ aA=>wp_label ⟨σ,h,aA⟩
def acX{id:Nat}(h:Q (.exit id) σ):W P N n0 (.exit id) Q σ:=λ_ _ _ _ _ aA=>wp_exit ⟨σ,h,aA⟩
def acY(h:Q .ret σ):W P N n0 .ret Q σ:=λ_ _ _ _ _ aA=>wp_ret ⟨σ,h,aA⟩
def acZ(P:Program)(N n0:Nat)(y:Code)(Q:Exit->St->Prop):Exit->St->Prop
 |.normal,s=>W P N n0 y Q s
 |e,s=>Q e s
def Fj{x y:Code}(h:W P N n0 x (acZ P N n0 y Q) σ):W P N n0 (.seq x y) Q σ:=by
 intro os γ0 a w hn aA;refine wp_seq (wp_mono (h os γ0 a w hn aA) ?_);rintro e a' w'⟨σ',h1,h2⟩;cases e with
 |normal=>exact h1 os γ0 a' w' hn h2
 |exit id=>exact⟨σ',h1,h2⟩
 |goto l=>exact⟨σ',h1,h2⟩
 |ret=>exact⟨σ',h1,h2⟩
 |panic c=>exact⟨σ',h1,h2⟩
 |outgrown=>exact⟨σ',h1,h2⟩
def Qx{c:Operand}{x y:Code}{t:Bool}(hc:ev σ c=.lit (.bool t))(ht:t=true->W P N n0 x Q σ)(hf:t=false->W P N n0 y Q σ):W P N n0 (.cond c x y) Q σ:=by
 intro os γ0 a w hn aA;have aQ:a.eval c=.bool t:=by
  obtain⟨_,_,γ,rfl,ha,hs,_⟩:=aA;have:=sN hs ha c;rw[hc]at this;exact this.cD
 exact wp_cond_split aQ (λh=>ht h os γ0 a w hn aA) (λh=>hf h os γ0 a w hn aA)
def Fl(id:Nat)(Q:Exit->St->Prop):Exit->St->Prop
 |.exit n9,s=>if n9=id then Q .normal s else Q (.exit n9) s
 |e,s=>Q e s
def acC{id:Nat}{c:Code}(h:W P N n0 c (Fl id Q) σ):W P N n0 (.block id c) Q σ:=by
 intro os γ0 a w hn aA;refine wp_block (wp_mono (h os γ0 a w hn aA) ?_);rintro e a' w'⟨σ',h1,h2⟩;cases e with
 |exit n9 =>
  simp only[Fl]at h1;simp only[Exit.inBlock];split
  ·rename_i he;rw[if_pos he]at h1;exact⟨σ',h1,h2⟩
  ·rename_i he;rw[if_neg he]at h1;exact⟨σ',h1,h2⟩
 |normal=>exact⟨σ',h1,h2⟩
 |goto l=>exact⟨σ',h1,h2⟩
 |ret=>exact⟨σ',h1,h2⟩
 |panic c=>exact⟨σ',h1,h2⟩
 |outgrown=>exact⟨σ',h1,h2⟩
def fU(N:Nat)(ops:Array Oper):Bool:=ops.toList.all λo=>match o.dst with|some d=>decide (d<N)|none=>true
def ud{ops:Array Oper}(h:fU N ops=true):∀ o∈ops.toList,∀ d,o.dst=some d->d<N:=by
 intro o ho d hd;unfold fU at h;rw[gd]at h;have:=h o ho;simp[hd]at this;exact this
def Qf{id:Nat}{ops:Array Oper}(hd:fU N ops=true)(h:opsL P ops ops.toList (Q .normal) σ):W P N n0 (.region id ops false) Q σ:=by
 intro os γ0 a w _ aA;refine wp_region ?_;have:=C2 (P:=P) (N:=N) (os:=os) (γ0:=γ0) (ops:=ops) (ud hd) (K:=Q .normal) (Q:=λe a' w'=>∃ σ',Q e σ'/\h9 N os γ0 σ' a' w') (λσ' a' w' hK dj=>⟨σ',hK,dj⟩)
  ops.toList 0 σ a w rfl h aA
 rw[List.range_eq_range'];simpa using this
def h9.drawn{os:List Ob}{γ0:Cx}{a:Act}{w:World}(h:h9 N os γ0 σ a w):h9 N os γ0 σ a { w with drawn:=w.drawn+1 }:=by
 obtain⟨h1,h2,γ,rfl,h3,h4,h5⟩:=h;exact⟨h1,h2,{ γ with w:={ γ.w with drawn:=γ.w.drawn+1 } },rfl,h3,h4.JB rfl,h5.JB rfl rfl rfl rfl⟩
def aF(n0:Nat)(σ σ':St):Prop:=∀ (os:List Ob) (γ0 γ:Cx),os.length=n0->bh σ γ->Fr os γ0 σ.aa γ->∃ az,az.w=γ.w/\az.tmps=γ.tmps/\bh σ' az/\Fr os γ0 σ'.aa az
def cd{c:Code}{σ':St}(h:aF n0 σ σ')(hw:W P N n0 c Q σ'):W P N n0 c Q σ:=by
 intro os γ0 a w hn aA;obtain⟨h1,h2,γ,rfl,h3,h4,h5⟩:=aA;obtain⟨az,e1,e2,e3,e4⟩:=h os γ0 γ hn h4 h5;exact hw os γ0 a γ.w hn ⟨h1,h2,az,e1,e2.trans h3,e3,e4⟩
def aF.forget{e:Nat->AV}(h:∀ k,e k=.undef\/e k=σ.env k):aF n0 σ ⟨e,σ.aa⟩:=by
 intro os γ0 γ _ hs hf;refine⟨γ,rfl,rfl,⟨λk=>?_,hs.dx,hs.inj,hs.nz,hs.fV,hs.gl⟩,hf⟩;rcases h k with h|h
 ·show aw _ _ _ _ (e k) _;rw[h];exact .undef _
 ·show aw _ _ _ _ (e k) _;rw[h];exact hs.ao k
def aF.select(aj:List Nat)(snap:Bool)(bU:List Ob)(e:Nat->AV)(bx:aj.Nodup)(bn:bU.length=aj.length)(rq:∀ (j:Nat) o,bU[j]?=some o->o=.gone\/σ.aa[aj.getD j 0]?=some (bM (bC σ.aa.length aj) o))(iU:∀ i∈aj,i<σ.aa.length)(hn:n0<=aj.length)(b9:∀ i,i<n0->aj.getD i 0=i)(he:∀ k,e k=.undef\/bT σ (λid=>∃ j,j<aj.length/\aj.getD j 0=id/\bU[j]?≠some .gone) (bC σ.aa.length aj) snap (e k) (σ.env k)):aF n0 σ ⟨e,bU⟩:=by
 intro os γ0 γ Bh hs hf;obtain⟨az,h1,h2,h3,h4⟩:=hs.select aj snap bU bx bn rq iU e γ.tmps (λk=>(he k).imp id λh=>⟨_,h,hs.ao k⟩);exact⟨az,h1,h2,h3,hf.select AT bn (λi hi=>b9 i AT) h1 h4⟩
def aF.trans{σ1 σ2:St}(h:aF n0 σ σ1)(k:aF n0 σ1 σ2):aF n0 σ σ2:=by
 intro os γ0 γ Bh hs hf;obtain⟨γ1,a1,a2,a3,a4⟩:=h os γ0 γ Bh hs hf;obtain⟨C3,b1,b2,b3,b4⟩:=k os γ0 γ1 Bh a3 a4;exact⟨C3,b1.trans a1,b2.trans a2,b3,b4⟩
def aF.nil(d sz:Nat)(h:σ.env d=.lit (.slice none 0 0))(h0:0<sz):aF n0 σ ⟨je σ.env d (.ref σ.aa.length sz 0 0),σ.aa++[.arr sz []]⟩:=by
 intro os γ0 γ _ hs hf;have hp:=hs.zx h0;refine⟨{ γ with blk:=cW γ.blk σ.aa.length none },rfl,rfl,⟨λk=>?_,hp.dx,hp.inj,hp.nz,hp.fV,hp.gl⟩,hf.trans (Fr.zx _ _ _)⟩;simp only[je];by_cases hk:k=d
 ·subst hk;rw[if_pos rfl];have:=hs.ao k;rw[h]at this;rw[this.cD];exact .lJ _ _ (List.getElem?_concat_length ..) (by simp[cW])
 ·rw[if_neg hk];exact hp.ao k
def gm(σ:St)(P:Program):List ResultVar->(List AV->Prop)->Prop
 |[],K=>K []
 |.tmp t::r,K=>gm σ P r λvs=>K (σ.env t::vs)
 |.cell a t::r,K =>
  (ty P t).kind≠99 /\
  match σ.env a with
  |.ptr id rr c =>
   match rowOf σ id rr with
   |some row=>ma (ty P t) row c λv=>gm σ P r λvs=>K (v::vs)
   |none=>False
  |_=>False
def fW:List AV->AV
 |[v]=>v
 |vs=>.bu vs
def Fz{γ:Cx}(hs:bh σ γ):∀ (rs:List ResultVar) (K:List AV->Prop),gm σ P rs K ->
  ∃ vs bd,K vs/\(rs.mapM λ(r:ResultVar)=>match r with|.tmp t=>(pure (γ.tmps.getD t Go.undef):Sem Value)|.cell a t=>do loadVar t (← asAddr (γ.tmps.getD a Go.undef))).run P γ.w=.ok bd γ.w /\
   bd.length=vs.length/\vs.length=rs.length/\∀ (j:Nat) v,vs[j]?=some v->aw σ.aa γ.w γ.Z γ.blk v (bd.getD j Go.undef)
 |[],K,h=>⟨[],[],h,IM,rfl,rfl,IM⟩
 |.tmp t::r,K,h=>by
  obtain⟨vs,bd,h1,h2,h3,h4,h5⟩:=Fz hs r _ h;refine⟨_,γ.tmps.getD t Go.undef::bd,h1,?_,by simp[h3],by simp[h4],?_⟩
  ·simp only[List.mapM_cons,Sem.run_bind,Sem.run_pure,Result.andThen_ok,h2]
  ·intro j v hj;cases j with
   |zero=>simp at hj;subst hj;simpa using hs.ao t
   |succ j=>simpa using h5 j v (by simpa using hj)
 |.cell a t::r,K,h=>by
  obtain⟨hk,h⟩:=h;split at h
  ·rename_i id rr c he;have hv:=hs.ao a;rw[he]at hv;split at h
   ·rename_i row bE;obtain⟨v,cv,l1,l2,l3⟩:=JA hs hk hv bE h;obtain⟨vs,bd,h1,h2,h3,h4,h5⟩:=Fz hs r _ l3;obtain⟨b,base,cap,cur,tt,o,hp,_⟩:=Fx hs hv bE;have eF:(do loadVar t (← asAddr (γ.tmps.getD a Go.undef)):Sem Value).run P γ.w=.ok cv γ.w:=by
     rw[hp]at l1 ⊢;simp only[Instr.loadAt,Instr.sureAddr,Sem.run_bind,Sem.run_pure,Result.andThen_ok]at l1;simp only[asAddr,Sem.run_bind,Sem.run_pure,Result.andThen_ok];exact l1
    refine⟨_,cv::bd,h1,?_,by simp[h3],by simp[h4],?_⟩
    ·simp only[List.mapM_cons];rw[Sem.run_bind,eF];simp only[Result.andThen_ok,Sem.run_bind,h2,Sem.run_pure]
    ·intro j x hj;cases j with
     |zero=>simp at hj;subst hj;simpa using l2
     |succ j=>simpa using h5 j x (by simpa using hj)
   ·exact h.elim
  ·exact h.elim
def nD(n0:Nat)(σ:St)(v res:AV)(ba:List Ob):Prop :=
 ∃ (aj:List Nat) (snap:Bool),aj.Nodup/\ba.length=aj.length/\(∀ (j:Nat) o,ba[j]?=some o->o=.gone\/σ.aa[aj.getD j 0]?=some (bM (bC σ.aa.length aj) o))/\(∀ i∈aj,i<σ.aa.length) /\
  n0<=aj.length/\(∀ i,i<n0->aj.getD i 0=i)/\bT σ (λid=>∃ j,j<aj.length/\aj.getD j 0=id/\ba[j]?≠some .gone) (bC σ.aa.length aj) snap res v
def Bi(P:Program)(n0:Nat)(rs:List ResultVar)(res:AV)(ba:List Ob):Exit->St->Prop
 |.normal,s=>gm s P rs λvs=>nD n0 s (fW vs) res ba
 |.ret,s=>gm s P rs λvs=>nD n0 s (fW vs) res ba
 |_,_=>False
def Holds.JC {f : FuncId} {fn : Func} {c : Code} {args : List AV} {aa : List Ob} {res : AV} {ba : List Ob} (hf : P.funcs[f]? = some fn) (hb : fn.body = some c) (rC : (fn.name == "runtime.NumGoroutine") = false)
  (hN:args.length<=fn.ntmps) (h:W P fn.ntmps aa.length c (Bi P aa.length fn.results.toList res ba) ⟨λk=>args.getD k .undef,aa⟩):Holds P f args aa res ba:=by
 refine⟨⟨fn,hf,rC,by rw[hb];rfl⟩,?_⟩;intro γ aJ hs;refine calls_of_wp hf hb ?_
 let tm:=γ.tmps++Array.replicate (fn.ntmps-γ.tmps.size) Go.undef
 have aA:h9 fn.ntmps aa γ ⟨λk=>args.getD k .undef,aa⟩ { tmps:=tm,defers:=[] } γ.w:=by
  refine⟨rfl,by simp[tm];omega,{ γ with tmps:=tm },rfl,rfl,⟨λk=>?_,hs.dx,hs.inj,hs.nz,hs.fV,hs.gl⟩,(Fr.refl _ _).put _⟩;rcases du k args.length with hk|hk
  ·have:=hs.ao k;have e:tm.getD k Go.undef=γ.tmps.getD k Go.undef:=by
    simp only[tm,eA];rw[EY AT]
   show aw _ _ _ _ _ (tm.getD k Go.undef);rw[e];exact this
  ·have e:args.getD k AV.undef=.undef:=by simp[hk]
   show aw _ _ _ _ (args.getD k .undef) _;rw[e];exact .undef _
 refine wp_mono (h aa γ _ γ.w rfl aA) ?_;rintro e a' w'⟨σ',h1,gH,_,az,rfl,ha,iz,eR⟩;have fin:∀ (K:List AV->Prop),gm σ' P fn.results.toList K->(∀ vs,K vs->nD aa.length σ' (fW vs) res ba) ->
   a'.defers=[]/\∃ v,(results fn a'.tmps).run P az.w=.ok v az.w/\∃ cv jg,Ending.returned v=.returned cv/\jg.w=az.w/\jg.tmps = #[cv]/\bh ⟨λk=>[res].getD k .undef,ba⟩ jg/\Fr aa γ ba jg:=by
  intro K hK JD;obtain⟨vs,bd,k1,k2,k3,k4,k5⟩:=Fz iz _ _ hK;obtain⟨aj,snap,r1,r2,r3,r4,r5,r6,r7⟩:=JD vs k1;refine⟨gH,?_⟩;have eF :∃v,(results fn a'.tmps).run P az.w=.ok v az.w/\aw σ'.aa az.w az.Z az.blk (fW vs) v:=by
   have hm:(fn.results.mapM λ(r:ResultVar)=>match r with|.tmp t=>(pure (a'.tmps.getD t Go.undef):Sem Value)|.cell a t=>do loadVar t (← asAddr (a'.tmps.getD a Go.undef))).run P az.w=.ok bd.toArray az.w:=by
    rw[Array.mapM_eq_mapM_toList,Sem.run_map,<- ha,k2];rfl
   have hr:(results fn a'.tmps).run P az.w=.ok (if h:bd.toArray.size=1 then bd.toArray[0] else .tuple bd.toArray) az.w:=by
    unfold results;rw[Sem.run_bind];exact congrArg (λr=>Result.andThen r λ(a:Array Value) w'=>(pure (if h:a.size=1 then a[0] else Value.tuple a):Sem Value).run P w') hm
   rw[hr]
   match vs,bd,k3,k5 with
   |[],[],_,k5=>exact⟨_,rfl,.bu _ _ rfl (λj x hj=>by simp at hj)⟩
   |[v],[cv],_,k5=>exact⟨cv,IM,by simpa [fW] using k5 0 v rfl⟩
   |v::v'::vs,cv::pj::bd,k3,k5 =>
    refine⟨.tuple (cv::pj::bd).toArray,IM,.bu _ _ (by simpa using k3) (λj x hj=>?_)⟩;have:=k5 j x hj;simpa [ax,eA] using this
  obtain⟨v,oh,x8⟩:=eF;obtain⟨jg,e1,e2,e3,e4⟩:=iz.select aj snap ba r1 r2 r3 r4 (λk=>[res].getD k .undef) #[v] (λk=>by
   cases k with
   |zero=>exact .inr ⟨_,r7,by simpa using x8⟩
   |succ k=>left;simp)
  exact⟨v,oh,v,jg,rfl,e1,e2,e3,eR.select r5 r2 r6 e1 e4⟩
 cases e with
 |normal=>exact fin _ h1 (λ_ h=>h)
 |ret=>exact fin _ h1 (λ_ h=>h)
 |exit id=>exact h1.elim
 |goto l=>exact h1.elim
 |panic c=>exact h1.elim
 |outgrown=>exact h1.elim
theorem Holds.aN {f:FuncId} {fn:Func} {c:Code} {args:List AV} {aa:List Ob} {res:AV} {ba:List Ob} (N k:Nat) (rs:List ResultVar) (hf:P.funcs[f]?=some fn) (h:W P N k c (Bi P k rs res ba) ⟨fun k=>args.getD k .undef,aa⟩) (hb:fn.body=some c:=by rfl) (rC:(fn.name=="runtime.NumGoroutine")=false:=by rfl) (hN:fn.ntmps=N:=by rfl) (sQ:fn.results.toList=rs:=by rfl) (hk:aa.length=k:=by rfl) (hl:args.length<=N:=by simp):Holds P f args aa res ba:=by
 subst hN;subst sQ;subst hk;exact Holds.JC hf hb rC hl h
def W_k{x y:Code}(h:∀ Q':Exit->St->Prop,(∀ s,W P N n0 y Q s->Q' .normal s)->(∀ e s,e≠.normal->Q e s->Q' e s)->W P N n0 x Q' σ):W P N n0 (.seq x y) Q σ :=
 Fj (h _ (λ_ h=>h) (λe s he hq=>by cases e<;>first|exact absurd rfl he|exact hq))
def JE{id:Nat}{ops:Array Oper}{y:Code}(hd:fU N ops=true)(h:∀ K:St->Prop,(∀ s,W P N n0 y Q s->K s)->opsL P ops ops.toList K σ):W P N n0 (.seq (.region id ops false) y) Q σ :=
 Fj (Qf hd (h _ (λ_ h=>h)))
def Py{ops:Array Oper}{K:St->Prop}:opsL P ops [] K σ=K σ:=rfl
def Pz{ops:Array Oper}{o:Oper}{r:List Oper}{K:St->Prop}:opsL P ops (o::r) K σ =
  match o.guard with
  |none=>aH P o σ (opsL P ops r K)
  |some (j,want) =>
   match (ops[j]?).bind (·.dst) with
   |none=>False
   |some d =>
    match σ.env d with
    |.lit (.bool b)=>og P o (opsL P ops r K) b want σ
    |.lit (.tuple vs)=>vs = #[]/\opsL P ops r K (σ.put o.dst (.lit (.tuple #[])))
    |_=>False:=rfl
def PD{o:Oper}{K:St->Prop}:og P o K true true σ=aH P o σ K:=by simp[og]
def PH{o:Oper}{K:St->Prop}:og P o K false false σ=aH P o σ K:=by simp[og]
def PE{o:Oper}{K:St->Prop}:og P o K true false σ=K (σ.put o.dst (.lit (.tuple #[]))):=by simp[og]
def PG{o:Oper}{K:St->Prop}:og P o K false true σ=K (σ.put o.dst (.lit (.tuple #[]))):=by simp[og]
def ac1{o:Oper}{K:St->Prop}{b want:Bool}(h1:b=true->og P o K true want σ)(h2:b=false->og P o K false want σ):og P o K b want σ:=by
 cases b
 ·exact h2 rfl
 ·exact h1 rfl
def clr(ds:List Nat)(e:Nat->AV):Nat->AV:=λk=>if ds.contains k then .undef else e k
def E'{ds:List Nat}{e:Nat->AV}{k:Nat}:clr ds e k=if ds.contains k then .undef else e k:=rfl
def ac3(e:Nat->AV)(d:Nat)(v:AV):je e d v d=v:=by simp[je]
mutual
def lH:AV->Bool
 |.ref ..=>false
 |.ptr ..=>false
 |.agg cs=>mK cs
 |.bu cs=>mK cs
 |.fn _ cs=>mK cs
 |.hZ _ v=>lH v
 |.c9 _=>false
 |_=>true
def mK:List AV->Bool
 |[]=>true
 |v::vs=>lH v&&mK vs
end
mutual
def Ba(ρ:Nat->Nat):∀ (v:AV),lH v=true->bj ρ v=v
 |.undef,_=>rfl
 |.lit _,_=>rfl
 |.tree ..,_=>rfl
 |.bY _,_=>rfl
 |.ref ..,h=>by simp[lH]at h
 |.ptr ..,h=>by simp[lH]at h
 |.agg cs,h=>by simp only[lH]at h;simp only[bj];rw[CW ρ cs h]
 |.bu cs,h=>by simp only[lH]at h;simp only[bj];rw[CW ρ cs h]
 |.fn f cs,h=>by simp only[lH]at h;simp only[bj];rw[CW ρ cs h]
 |.hZ t v,h=>by simp only[lH]at h;simp only[bj];rw[Ba ρ v h]
 |.c9 _,h=>by simp[lH]at h
def CW(ρ:Nat->Nat):∀ (l:List AV),mK l=true->oa ρ l=l
 |[],_=>rfl
 |v::vs,h=>by
  simp only[mK,bg]at h;simp only[oa];rw[Ba ρ v h.1,CW ρ vs h.2]
end
def ac4{l:List AV}(h:mK l=true){j:Nat}{x:AV}(hx:l[j]?=some x):lH x=true:=by
 induction l generalizing j with
 |nil=>simp at hx
 |cons v l ih =>
  simp only[mK,bg]at h;cases j with
  |zero=>simp at hx;subst hx;exact h.1
  |succ j=>exact ih h.2 (by simpa using hx)
def bX{f:FuncId}{args:List AV}{dst:Option Tmp}{K:St->Prop}{res:AV}(h:Holds P f args [] res [])(ha:mK args=true)(hr:lH res=true)(hK:K (σ.put dst res)):tX P f args dst K σ:=by
 refine⟨[],false,args,[],res,[],h,⟨E0,rfl,IM,rfl,?_,IM⟩,?_⟩
 ·intro j c d hc hd;rw[hc]at hd;simp at hd;subst hd;have:=bT.same (σ:=σ) (kp:=(·∈([]:List Nat))) (ρ:=bC σ.aa.length []) (snap:=false) c;rw[Ba _ c (ac4 ha hc)]at this;exact this
 ·rw[Ba _ _ hr];simpa [gf] using hK
def Jn{v:AV}(hr:lH v=true):nD 0 σ v v []:=by
 refine⟨[],false,E0,rfl,IM,IM,aX _,IM,?_⟩;have:=bT.same (σ:=σ) (kp:=λid=>∃ j,j<([]:List Nat).length/\([]:List Nat).getD j 0=id/\([]:List Ob)[j]?≠some .gone) (ρ:=bC σ.aa.length []) (snap:=false) v;rw[Ba _ _ hr]at this;exact this
end Go.Am
namespace Go.Am
variable {P:Program}
def cls:Op->Nat
 |.move _|.assign _|.pick ..|.convert ..|.binOp ..|.unOp ..|.makeFunc ..|.makeInterface ..|.typeAssert ..|.field ..|.extract ..|.build ..|.index ..=>0
 |.call { callee:=.builtin .min,.. }|.call { callee:=.builtin .max,.. }=>0
 |.nilCheck _|.fieldAddr ..|.indexAddr ..|.slice ..=>1
 |.call { callee:=.builtin .len,.. }=>1
 |.load ..|.lookup ..=>2
 |.alloc _|.box ..|.makeSlice ..|.buildSlice ..|.makeMap ..=>3
 |.store ..=>4
 |_=>5
def ub:Ob->Ob->Prop
 |.var _,.var _=>True
 |.arr s _,.arr s' _=>s=s'
 |.mp a L,.mp b M=>a=b/\L=M
 |.gone,.gone=>True
 |_,_=>False
def zl(o:Ob):ub o o:=by cases o<;>simp[ub]
def kF(c:Nat)(a b:List Ob):Prop :=
 if c<=2 then b=a
 else if c=3 then ∀ (id:Nat),id<a.length->b[id]?=a[id]?
 else if c=4 then b.length=a.length/\∀ (id:Nat) o o',a[id]?=some o->b[id]?=some o'->ub o o'
 else True
def ac5(c:Nat)(h:c<=2)(a:List Ob):kF c a a:=by simp[kF,h]
def FA(a:List Ob)(o:Ob):kF 3 a (a++[o]):=by
 simp only[kF];intro id h;exact eL h
def ac6(σ:St)(id r:Nat)(row:List AV):kF 4 σ.aa (nX σ id r row).aa:=by
 simp only[kF];rw[if_neg IP,if_neg IP,if_pos trivial];have key:∀ (x y:Ob),σ.aa[id]?=some x->ub x y->(σ.aa.set id y).length=σ.aa.length/\∀ (i:Nat) o o',σ.aa[i]?=some o->(σ.aa.set id y)[i]?=some o'->ub o o':=by
  intro x y hx qt;refine⟨IM,λi o o' ho cJ=>?_⟩;rw[List.getElem?_set]at cJ;split at cJ
  ·rename_i e;subst e;split at cJ
   ·simp at cJ;subst cJ;rw[hx]at ho;simp at ho;subst ho;exact qt
   ·simp at cJ
  ·rw[ho]at cJ;simp at cJ;subst cJ;exact zl o
 unfold nX;split
 ·rename_i cells h;exact key _ _ h trivial
 ·rename_i sz rows h;exact key _ _ h rfl
 ·exact⟨rfl,λi o o' ho cJ=>by rw[ho]at cJ;simp at cJ;subst cJ;exact zl o⟩
def qu:AV->Option Nat
 |.ref id _ _ _=>some id
 |.ptr id _ _=>some id
 |.c9 id=>some id
 |_=>none
def jz(c:Nat)(a b:Option Ob):Prop :=
 if c=0 then True else if c=1 then ∀ o,a=some o->∃ o',b=some o'/\ub o o' else ∀ o,a=some o->b=some o
def qv(c:Nat)(l:List Operand)(σ:St)(e2:Nat->AV)(ob:List Ob):Prop :=
 (∀ x∈l,ev ⟨e2,ob⟩ x=ev σ x)/\(∀ x∈l,∀ id,qu (ev σ x)=some id->jz c σ.aa[id]? ob[id]?)
def JF(P:Program)(o:Oper)(σ:St)(K:St->Prop)(c:Nat)(l:List Operand):Prop :=
 ∃ v os,kF c σ.aa os/\K ((⟨σ.env,os⟩:St).put o.dst v)/\∀ e2 ob os2 (K2:St->Prop),qv c l σ e2 ob->(if c<=2 then os2=ob else ob=σ.aa/\os2=os)->K2 ((⟨e2,os2⟩:St).put o.dst v)->b8 P o ⟨e2,ob⟩ K2
theorem dA{o:Oper}{σ:St}{K:St->Prop}{c:Nat}{l:List Operand}{v:AV}(hW:K (σ.put o.dst v))(h:∀ e2 ob (K2:St->Prop),qv c l σ e2 ob->K2 ((⟨e2,ob⟩:St).put o.dst v)->b8 P o ⟨e2,ob⟩ K2)(hc:c<=2:=by simp[cls]):JF P o σ K c l :=
 ⟨v,σ.aa,ac5 _ hc _,hW,fun e2 ob os2 K2 hx ho dC=>h e2 ob K2 hx (by rw[if_pos hc]at ho;subst ho;exact dC)⟩
def dB{o:Oper}{σ:St}{K:St->Prop}{c:Nat}{l:List Operand}{v:AV}{os:List Ob}(hc:3<=c)(he:kF c σ.aa os)(hW:K ((⟨σ.env,os⟩:St).put o.dst v))(h:∀ e2 (_:List Ob) (K2:St->Prop),qv 0 l σ e2 σ.aa->K2 ((⟨e2,os⟩:St).put o.dst v)->b8 P o ⟨e2,σ.aa⟩ K2):JF P o σ K c l :=
 ⟨v,os,he,hW,λe2 ob os2 K2 hx ho dC=>by rw[if_neg AT]at ho;obtain⟨rfl,rfl⟩:=ho;exact h e2 σ.aa K2 ⟨hx.1,λ_ _ _ _=>by simp[jz]⟩ dC⟩
def parts_eq{parts:Array (Nat×Operand)}{σ τ:St}(h:∀ x∈parts.toList.map (·.2),ev τ x=ev σ x):
  (parts.toList.map λp=>(p.1,ev τ p.2))=(parts.toList.map λp=>(p.1,ev σ p.2))/\(parts.toList.all λp=>(cellsOf (ev τ p.2)).all cR)=(parts.toList.all λp=>(cellsOf (ev σ p.2)).all cR):=by
 have hp:(parts.toList.map λp=>(p.1,ev τ p.2))=(parts.toList.map λp=>(p.1,ev σ p.2)):=uX λp hp=>by rw[h _ (CD hp)]
 exact⟨hp,by simpa [List.all_map,Function.comp_def] using congrArg (·.all λq=>(cellsOf q.2).all cR) hp⟩
def P1{t:Ty}{cells:List AV}{c:Nat}{K:AV->Prop}(h:ma t cells c K):∃v,K v/\∀ K2:AV->Prop,K2 v->ma t cells c K2:=by
 unfold ma at h ⊢;split at h
 ·exact⟨_,h.2,λK2 hK=>by simp_all⟩
 ·split at h<;>first|exact h.elim|exact⟨_,h,λK2 hK=>by simp_all⟩
def ac7{k:IntKind}{p q:Int}{K:Value->Prop}(h:vj k p q K):∃v,K v/\∀ K2:Value->Prop,K2 v->vj k p q K2:=by
 by_cases hk:k=.u64
 ·rw[vj,if_pos hk]at h;exact⟨_,h,λK2 h2=>by rw[vj,if_pos hk];exact h2⟩
 ·rw[vj,if_neg hk]at h;exact⟨_,h.2,λK2 h2=>by rw[vj,if_neg hk];exact⟨h.1,h2⟩⟩
def ac8{k:IntKind}{p:Int}{K:Value->Prop}(h:tY k p K):∃v,K v/\∀ K2:Value->Prop,K2 v->tY k p K2:=by
 by_cases hk:k=.u64
 ·rw[tY,if_pos hk]at h;exact⟨_,h,λK2 h2=>by rw[tY,if_pos hk];exact h2⟩
 ·rw[tY,if_neg hk]at h;exact⟨_,h.2,λK2 h2=>by rw[tY,if_neg hk];exact⟨h.1,h2⟩⟩
def ac9{op:BinOp}{k:IntKind}{p q:Int}{K:Value->Prop}(h:gw op k p q K):∃v,K v/\∀ K2:Value->Prop,K2 v->gw op k p q K2:=by
 unfold gw at h ⊢;split at h<;>first|exact ac7 h|exact⟨_,h.2,λK2 h'=>⟨h.1,h'⟩⟩|exact⟨_,h,λK2 h=>h⟩|exact h.elim
def ac'{σ:St}{e:Nat->AV}{ob:List Ob}{id r:Nat}{row:List AV}(h:∀ o,σ.aa[id]?=some o->ob[id]?=some o)(hr:rowOf σ id r=some row):rowOf ⟨e,ob⟩ id r=some row:=by
 unfold rowOf at hr ⊢;cases ho:σ.aa[id]?<;>simp_all
def ada{σ:St}{e:Nat->AV}{ob:List Ob}{v:AV}{q:Nat×Nat×List (List Int×AV)}(h:∀ id,v=.c9 id->∀ o,σ.aa[id]?=some o->ob[id]?=some o)(hm:lE σ v=some q):lE ⟨e,ob⟩ v=some q:=by
 unfold lE at hm ⊢;split at hm
 ·rename_i id;split at hm
  ·rename_i ag L ho;have:=h id rfl _ ho;simp only[this];exact hm
  ·cases hm
 ·cases hm
def Qy{o:Oper}{σ:St}{K:St->Prop}(hW:b8 P o σ K):JF P o σ K (cls o.op) o.op.operands.toList:=by
 obtain⟨dst,op,type,pos,after,guard⟩:=o;unfold b8 at hW;cases op
 case call c =>
  obtain⟨callee,args,argTypes⟩:=c;cases callee<;>try exact hW.elim
  rename_i b;cases b<;>try exact hW.elim
  all_goals simp only at hW
  case append =>
   (repeat' split at hW)<;>try exact hW.elim
   rename_i s x t t' bW jM _ _ _ _ z pre σ1 sz src hk hz mP qw;have sP:σ1=⟨σ.env,σ1.aa⟩/\∀ e,kZ ⟨e,σ.aa⟩ (ty P (ty P t).elem).size (ev σ s)=some (pre,⟨e,σ1.aa⟩):=by
    unfold kZ at mP ⊢;(repeat' split at mP)<;>simp_all
    all_goals obtain⟨rfl,rfl⟩:=mP;simp
   refine dB (os:=σ1.aa++[.arr sz (pre++src)]) (by simp[cls]) trivial (by have:=hW.2;rw[sP.1]at this;exact this) λe2 ob K2 hx dC=>?_;have j3:nC ⟨e2,σ.aa⟩ (ev σ x)=some (sz,src):=qw;unfold b8;simp[qv,Op.operands,Call.operands,bW]at hx;simp only[bW,jM,hx.1.1,hx.1.2,hk,hz,sP.2,j3];exact⟨hW.1,dC⟩
  case copy =>
   (repeat' split at hW)<;>try exact hW.elim
   rename_i bW jM _ _ id _ _ _ _ src he qw _ _ _ ho;refine dB (by simp[cls]) trivial hW.2 λe2 ob K2 hx dC=>?_;have j3:nC ⟨e2,σ.aa⟩ _=_:=qw;unfold b8;simp[qv,Op.operands,Call.operands,bW]at hx;simp only[bW,jM,hx.1.1,hx.1.2,he,j3,ho];exact⟨hW.1,dC⟩
  case clear =>
   (repeat' split at hW)<;>try exact hW.elim
   rename_i bW jM _ _ id _ _ _ _ he hz _ _ _ ho;refine dB (by simp[cls]) trivial hW.2 λe2 ob K2 hx dC=>?_;unfold b8;simp[qv,Op.operands,Call.operands,bW]at hx;simp only[bW,jM,hx,he,hz,ho];exact⟨hW.1,dC⟩
  all_goals(repeat' split at hW)<;>first|exact hW.elim|exact hW.2.elim|refine dA hW ?_|refine dA hW.2 ?_|refine dA hW.2.2 ?_
  all_goals
   intro e2 ob K2 hx dC;unfold b8;simp[qv,Op.operands,Call.operands,qu,jz,cls, *]at hx ⊢;first|done|(simp_all;done)|(obtain⟨_,o',_,hk⟩:=hx;cases o'<;>simp_all [ub];done)
 case load t x =>
  simp only at hW;obtain⟨hk,hW⟩:=hW;(repeat' split at hW)<;>try exact hW.elim
  all_goals
   obtain⟨v,hK,hl⟩:=P1 hW;refine dA hK λe2 ob K2 hx dC=>?_;unfold b8;simp[qv,Op.operands,qu,jz,cls, *]at hx;first|simp only[hx.1,ac' hx.2 ‹rowOf _ _ _=_›]|simp only[hx]
   exact⟨hk,hl _ dC⟩
 case store t x y =>
  simp only at hW;obtain⟨hk,hW⟩:=hW;(repeat' split at hW)<;>try exact hW.elim
  rename_i id r c he _ row bE;have sP:∀ row,nX σ id r row=⟨σ.env,(nX σ id r row).aa⟩/\∀ e,nX ⟨e,σ.aa⟩ id r row=⟨e,(nX σ id r row).aa⟩:=by
   intro row;unfold nX;simp only;split<;>simp_all
  refine dB (by simp[cls]) (ac6 _ _ _ _) (by have:=hW.2;rw[(sP _).1]at this;exact this) λe2 ob K2 hx dC=>?_;have gz:rowOf ⟨e2,σ.aa⟩ id r=some row:=bE;unfold b8;simp only[hx.1 x (by simp[Op.operands]),hx.1 y (by simp[Op.operands]),he,gz];rw[(sP _).2];exact⟨hk,hW.1,dC⟩
 case build t parts =>
  simp only at hW;(repeat' split at hW)<;>first|exact hW.elim|refine dA hW.2 ?_
  all_goals
   intro e2 ob K2 hx dC;obtain⟨h1,h2⟩:=parts_eq (parts:=parts) (by simpa [Op.operands] using hx.1);unfold b8;simp only[h1,h2, *];simp[hW.1]
 case buildSlice t _ parts =>
  simp only at hW;(repeat' split at hW)<;>first|exact hW.elim|refine dB (aX 3) (FA _ _) hW.2 ?_
  intro e2 ob K2 hx dC;obtain⟨h1,h2⟩:=parts_eq (parts:=parts) (by simpa [Op.operands] using hx.1);unfold b8;simp only[h1,h2, *];simp[hW.1]
 case makeFunc fn first captured =>
  simp only at hW;split at hW<;>first|exact hW.elim|refine dA hW.2 λe2 ob K2 hx dC=>?_
  unfold b8;simp only[uX (l:=captured.toList) (f:=ev ⟨e2,ob⟩) (g:=ev σ) λy hy=>hx.1 y (by simp only[Op.operands,CC,List.mem_append];exact .inr hy)];exact⟨hW.1,dC⟩
 case unOp op t x =>
  simp only at hW;split at hW
  ·rename_i b he;refine dA hW λe2 ob K2 hx dC=>?_;unfold b8;simp[qv,Op.operands]at hx;simp only[hx.1,he];exact dC
  ·rename_i k p he;obtain⟨v,hK,hl⟩:=ac8 hW;refine dA hK λe2 ob K2 hx dC=>?_;unfold b8;simp[qv,Op.operands]at hx;simp only[hx.1,he];exact hl _ dC
  ·exact hW.elim
 case binOp op t x y yt =>
  simp only at hW;split at hW
  ·rename_i k p k' q he hf;obtain⟨hk,hW⟩:=hW;obtain⟨v,hK,hl⟩:=ac9 hW;refine dA hK λe2 ob K2 hx dC=>?_;unfold b8;simp[qv,Op.operands,he,hf]at hx;simp only[hx.1.1,hx.1.2];exact⟨hk,hl _ dC⟩
  all_goals(repeat' split at hW)<;>first|exact hW.elim|exact hW.2.elim|refine dA hW.2 ?_
  all_goals
   intro e2 ob K2 hx dC;unfold b8;simp[qv,Op.operands, *]at hx ⊢;first|done|(simp_all;done)
 case slice t x lo hi mx =>
  simp only at hW;obtain⟨hk,dP,rfl,hW⟩:=hW;cases lo<;>cases hi<;>simp only[gF,Option.map_none]at hW;all_goals(repeat' split at hW)<;>first|exact hW.elim|exact hW.2.elim|exact hW.2.2.elim|refine dA hW.2 ?_|refine dA hW.2.2 ?_|refine dA hW.2.2.2 ?_
  all_goals
   intro e2 ob K2 hx dC;unfold b8;simp only[cy.injEq]at *;simp[qv,Op.operands,qu,jz,cls, *]at hx ⊢;first|done|(simp_all;done)|(obtain⟨_,o',_,hk⟩:=hx;cases o'<;>simp_all [ub];done)|(obtain⟨_,⟨o',_,hk⟩,_⟩:=hx;cases o'<;>simp_all [ub];done)|trace_state
 case makeMap t r =>
  simp only at hW;obtain⟨⟨rfl,hk⟩,hK⟩:=hW;refine dB (aX 3) (FA _ _) hK λe2 ob K2 hx dC=>?_;unfold b8;exact⟨⟨rfl,hk⟩,dC⟩
 case lookup t x i ok =>
  simp only at hW;split at hW
  ·rename_i ag l id iJ L z iA nJ nK;refine dA hW.2 λe2 ob K2 hx dC=>?_;have h1:=hx.1 x (by simp[Op.operands]);have h2:=hx.1 i (by simp[Op.operands]);have h3:lE ⟨e2,ob⟩ (ev σ x)=some (id,iJ,L):=ada (λn9 b9 o ho=>by
    have:=hx.2 x (by simp[Op.operands]) n9 (by rw[b9];rfl);unfold jz at this;simp[cls]at this;exact this o ho) nJ
   unfold b8;simp only[h1,h2,iA,h3,nK];exact⟨hW.1,dC⟩
  ·exact hW.elim
 case mapUpdate t m k x =>
  simp only at hW;split at hW
  ·rename_i iA nJ;obtain⟨mj,zy⟩:=hW;refine dB (v:=.undef) (os:=_) (by simp[cls]) trivial zy λe2 ob K2 hx dC=>?_;have h1:=hx.1 m (by simp[Op.operands]);have h2:=hx.1 k (by simp[Op.operands]);have h3:=hx.1 x (by simp[Op.operands]);have h4:lE ⟨e2,σ.aa⟩ (ev σ m)=_:=nJ;unfold b8;simp only[h1,h2,h3,iA,h4];exact⟨mj,dC⟩
  ·exact hW.elim
 case mapEntry t m k =>
  simp only at hW;split at hW
  ·rename_i iA nJ nK;obtain⟨mj,zy⟩:=hW;refine dB (v:=_) (os:=_) (by simp[cls]) trivial zy λe2 ob K2 hx dC=>?_;have h1:=hx.1 m (by simp[Op.operands]);have h2:=hx.1 k (by simp[Op.operands]);have h4:lE ⟨e2,σ.aa⟩ (ev σ m)=_:=nJ;unfold b8;simp only[h1,h2,iA,h4,nK];exact⟨mj,dC⟩
  ·exact hW.elim
 case entryStore t m s x =>
  simp only at hW;split at hW
  ·rename_i hs nJ;obtain⟨mj,zy⟩:=hW;refine dB (v:=.undef) (os:=_) (by simp[cls]) trivial zy λe2 ob K2 hx dC=>?_;have h1:=hx.1 m (by simp[Op.operands]);have h2:=hx.1 s (by simp[Op.operands]);have h3:=hx.1 x (by simp[Op.operands]);have h4:lE ⟨e2,σ.aa⟩ (ev σ m)=_:=nJ;unfold b8;simp only[h1,h2,h3,hs,h4];exact⟨mj,dC⟩
  ·exact hW.elim
 all_goals(try simp only at hW);(try exact hW.elim)
 all_goals(repeat' split at hW)<;>first|exact hW.elim|exact hW.2.elim|exact hW.2.2.elim|refine dA hW ?_|refine dA hW.2 ?_|refine dA hW.2.2 ?_|refine dA hW.2.2.2 ?_|refine dB (aX 3) (FA _ _) hW.2 ?_|refine dB (aX 3) (FA _ _) hW.2.1 ?_
 all_goals
  intro e2 ob K2 hx dC;unfold b8;simp[qv,Op.operands,qu,jz,cls,-gd, *]at hx ⊢;first|done|(simp_all;done)|(obtain⟨_,rfl,_⟩:=hW;simp_all;done)|(obtain⟨_,o',_,hk⟩:=hx;cases o'<;>simp_all [ub];done)
def aco{o:Oper}{σ:St}{K:St->Prop}(hW:b8 P o σ K):
  ∃ v os,kF (cls o.op) σ.aa os/\K ((⟨σ.env,os⟩:St).put o.dst v)/\∀ (e2:Nat->AV) (K2:St->Prop),(∀ x∈o.op.operands.toList,ev ⟨e2,σ.aa⟩ x=ev σ x)->K2 ((⟨e2,os⟩:St).put o.dst v)->b8 P o ⟨e2,σ.aa⟩ K2:=by
 obtain⟨v,os,h1,h2,h3⟩:=Qy hW;refine⟨v,os,h1,h2,λe2 K2 hx hK=>h3 e2 _ os K2 ⟨hx,λ_ _ _ _=>?_⟩ ?_ hK⟩
 ·unfold jz;(repeat' split)<;>first|trivial|exact λo ho=>ho|exact λo ho=>⟨o,ho,zl o⟩
 ·split
  ·rename_i hc;simpa [kF,hc] using h1
  ·exact⟨rfl,rfl⟩
def P2{o:Oper}{σ:St}{K:St->Prop}(hc:cls o.op<=2)(hW:b8 P o σ K):
  ∃ v,K (σ.put o.dst v)/\∀ (σ2:St) (K2:St->Prop),(∀ x∈o.op.operands.toList,ev σ2 x=ev σ x)->(∀ x∈o.op.operands.toList,∀ id,qu (ev σ x)=some id->jz (cls o.op) σ.aa[id]? σ2.aa[id]?) ->
   K2 (σ2.put o.dst v)->b8 P o σ2 K2:=by
 obtain⟨v,os,h1,h2,h3⟩:=Qy hW;simp only[kF,hc,if_true]at h1 h3;subst h1;exact⟨v,h2,λσ2 K2 hx ho hK=>h3 σ2.env σ2.aa _ K2 ⟨hx,ho⟩ rfl hK⟩
end Go.Am

