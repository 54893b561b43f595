import Derived.Test.YtfoopmojjjpapaaGreatX03
set_option linter.all false
set_option maxHeartbeats 0
set_option maxRecDepth 20000
open Bool renaming and_eq_true→a7
open List renaming mem_cons→a8,mem_of_getElem?→ik,getElem?_map→bY,getElem?_cons_zero→uV,getElem?_append_left→er,getElem?_set_ne→fN,getElem?_cons_succ→rU,getElem?_append_right→gN,length_cons→cV,eq_nil_of_length_eq_zero→AS,getElem?_eq_some_iff→aT,getD_eq_getElem?_getD→az,mem_map_of_mem→CR,length_map→eu,mem_map→b6,all_eq_true→e8,nodup_nil→Jg,map_congr_left→tI
open Option renaming map_eq_some_iff→uT,some→cy,map_some→im
open Nat renaming lt_or_ge→dw,le_refl→aU
open Array renaming toList_append→AQ,getD_eq_getD_getElem?→ep,getElem?_append_left→Fo,getElem?_toList→CS,getElem?_map→OR
namespace Go.Am
variable {P:Program}
mutual
def bh(ρ:Nat->Nat):AV->AV
 |.ref id sz off len=>.ref (ρ id) sz off len
 |.ptr id r c=>.ptr (ρ id) r c
 |.agg cs=>.agg (n9 ρ cs)
 |.bx cs=>.bx (n9 ρ cs)
 |.fn f cs=>.fn f (n9 ρ cs)
 |.iv t v=>.iv t (bh ρ v)
 |.db id=>.db (ρ id)
 |v=>v
def n9(ρ:Nat->Nat):List AV->List AV
 |[]=>[]
 |v::vs=>bh ρ v::n9 ρ vs
end
def wL(ρ:Nat->Nat)(l:List AV):n9 ρ l=l.map (bh ρ):=by
 induction l with
 |nil=>simp[n9]
 |cons v l ih=>simp[n9,ih]
def bM(ρ:Nat->Nat):Ob->Ob
 |.gone=>.gone
 |.var cs=>.var (cs.map (bh ρ))
 |.arr sz rows=>.arr sz (rows.map (·.map (bh ρ)))
 |.mp ag L=>.mp ag (L.map λp=>(p.1,bh ρ p.2))
mutual
def flat:AV->Bool
 |.tree ..=>false
 |.cj _=>false
 |.agg cs=>Bg cs
 |.bx cs=>Bg cs
 |.fn _ cs=>Bg cs
 |.iv _ v=>flat v
 |_=>true
def Bg:List AV->Bool
 |[]=>true
 |v::vs=>flat v&&Bg vs
end
def JU{l:List AV}(h:Bg l=true):∀ v∈l,flat v=true:=by
 induction l with
 |nil=>intro v hv;simp at hv
 |cons x l ih =>
  simp only[Bg,a7]at h;intro v hv;rcases a8.1 hv with rfl|hv
  ·exact h.1
  ·exact ih h.2 v hv
def C4:Ob->Prop
 |.gone=>True
 |.var cs=>∀ v∈cs,flat v=true
 |.arr _ rows=>∀ row∈rows,∀ v∈row,flat v=true
 |.mp _ L=>∀ p∈L,flat p.2=true
def aw.ad6{os:List Ob}{w:World}{Z Z':Nat->Prop}{blk:gd}{v:AV}{cv:Value}(h:aw os w Z blk v cv)(hf:flat v=true):aw os w Z' blk v cv:=by
 induction h with
 |undef cv=>exact .undef cv
 |cJ v cv h=>cases h<;>first|exact .cJ _ _ (.lit _)|simp[flat]at hf
 |cj=>simp[flat]at hf
 |ku id sz off len cv h h1=>exact .ku id sz off len cv h h1
 |mR id r c cv h h1=>exact .mR id r c cv h h1
 |ref id sz off len b o cap cap' rows h hb hl hc jC=>exact .ref id sz off len b o cap cap' rows h hb hl hc jC
 |lL id sz h hb=>exact .lL id sz h hb
 |mo id sz off b x bo rows h hb hl=>exact .mo id sz off b x bo rows h hb hl
 |nx id c b cap cells h hb=>exact .nx id c b cap cells h hb
 |oa id r c sz b o cap rows h hb=>exact .oa id r c sz b o cap rows h hb
 |agg cs bg hs _ ih=>simp only[flat]at hf;exact .agg cs bg hs (λj x hx=>ih j x hx (JU hf x (ik hx)))
 |bx cs bg hs _ ih=>simp only[flat]at hf;exact .bx cs bg hs (λj x hx=>ih j x hx (JU hf x (ik hx)))
 |fn f cs bg hs _ ih=>simp only[flat]at hf;exact .fn f cs bg hs (λj x hx=>ih j x hx (JU hf x (ik hx)))
 |iv t v cv _ ih=>simp only[flat]at hf;exact .iv t v cv (ih hf)
 |db id b ag L h hb=>exact .db id b ag L h hb
 |qc id cv h h1=>exact .qc id cv h h1
def aw.up{os gu:List Ob}{w:World}{Z Z':Nat->Prop}{blk jQ:gd}{ρ:Nat->Nat}{v:AV}{cv:Value}(h:aw os w Z blk v cv)(hz:∀ b,Z b->Z' b)(ho:∀ j o,os[j]?=some o->gu[ρ j]?=some (bM ρ o)/\(o≠.gone->jQ (ρ j)=blk j)):aw gu w Z' jQ (bh ρ v) cv:=by
 induction h with
 |undef cv=>exact .undef cv
 |cJ v cv h =>
  have h':aw gu w Z' jQ v cv:=.cJ _ _ (h.mono (λb hb=>⟨hz b hb,rfl⟩));cases h<;>simpa [bh] using h'
 |cj cells b o f sv hc ht=>exact .cj cells b o f (hz b sv) hc (λj x hx=>(ht j x hx).mono (λb hb=>⟨hz b hb,rfl⟩))
 |ku id sz off len cv h h1=>exact .ku _ sz off len cv (ho id _ h).1 h1
 |mR id r c cv h h1=>exact .mR _ r c cv (ho id _ h).1 h1
 |ref id sz off len b o cap cap' rows h hb hl hc jC =>
  obtain⟨h1,h2⟩:=ho id _ h;exact .ref _ sz off len b o cap cap' _ h1 ((h2 Fl).trans hb) (by simpa using hl) hc jC
 |lL id sz h hb =>
  obtain⟨h1,h2⟩:=ho id _ h;exact .lL _ sz h1 ((h2 Fl).trans hb)
 |mo id sz off b x bo rows h hb hl =>
  obtain⟨h1,h2⟩:=ho id _ h;exact .mo _ sz off b x bo _ h1 ((h2 Fl).trans hb) (by simpa using hl)
 |nx id c b cap cells h hb =>
  obtain⟨h1,h2⟩:=ho id _ h;exact .nx _ c b cap _ h1 ((h2 Fl).trans hb)
 |oa id r c sz b o cap rows h hb =>
  obtain⟨h1,h2⟩:=ho id _ h;exact .oa _ r c sz b o cap _ h1 ((h2 Fl).trans hb)
 |agg cs bg hs _ ih =>
  simp only[bh,wL];refine .agg _ bg (by simpa using hs) (λj x hx=>?_);simp only[bY,uT]at hx;obtain⟨y,hy,rfl⟩:=hx;exact ih j y hy
 |bx cs bg hs _ ih =>
  simp only[bh,wL];refine .bx _ bg (by simpa using hs) (λj x hx=>?_);simp only[bY,uT]at hx;obtain⟨y,hy,rfl⟩:=hx;exact ih j y hy
 |fn f cs bg hs _ ih =>
  simp only[bh,wL];refine .fn f _ bg (by simpa using hs) (λj x hx=>?_);simp only[bY,uT]at hx;obtain⟨y,hy,rfl⟩:=hx;exact ih j y hy
 |iv t v cv _ ih=>simp only[bh];exact .iv t _ cv ih
 |db id b ag L h hb =>
  obtain⟨h1,h2⟩:=ho id _ h;exact .db _ b ag _ h1 ((h2 Fl).trans hb)
 |qc id cv h h1=>exact .qc _ cv (ho id _ h).1 h1
def Da{ρ:Nat->Nat}{o:Ob}:bM ρ o=.gone↔o=.gone:=by cases o<;>simp[bM]
def Ob.ad7{ρ:Nat->Nat}{x y:Ob}(h:x.dO y):(bM ρ x).dO (bM ρ y):=by
 cases x<;>cases y<;>simp[Ob.dO,bM]at h ⊢<;>exact h
def aw.down{os gu:List Ob}{w:World}{Z Z':Nat->Prop}{blk jQ:gd}{ρ:Nat->Nat}{v:AV}{cv:Value}(h:aw os w Z blk v cv)(hz:∀ b,Z b->Z' b)(ho:∀ j x,os[ρ j]?=some x->∃ o,gu[j]?=some o/\(o=.gone\/(x=bM ρ o/\jQ j=blk (ρ j)))):∀ v',v=bh ρ v'->aw gu w Z' jQ v' cv:=by
 induction h with
 |undef cv=>intro v' hv;cases v'<;>simp[bh]at hv;exact .undef cv
 |cJ v cv h =>
  intro v' hv;have h':aw gu w Z' jQ v cv:=.cJ _ _ (h.mono (λb hb=>⟨hz b hb,rfl⟩));cases h<;>cases v'<;>simp[bh]at hv<;>(first|(subst hv;exact h')|(obtain⟨rfl,rfl⟩:=hv;exact h'))
 |cj cells b o f sv hc ht =>
  intro v' hv;cases v'<;>simp[bh]at hv;subst hv;exact .cj _ b o f (hz b sv) hc (λj x hx=>(ht j x hx).mono (λb hb=>⟨hz b hb,rfl⟩))
 |ku id sz off len cv h h1 =>
  intro v' hv;cases v'<;>simp[bh]at hv;obtain⟨rfl,rfl,rfl,rfl⟩:=hv;obtain⟨o,h2,rfl |⟨h3,_⟩⟩:=ho _ _ h
  ·exact .ku _ _ _ _ cv h2 h1
  ·have:=Da.1 h3.symm;subst this;exact .ku _ _ _ _ cv h2 h1
 |mR id r c cv h h1 =>
  intro v' hv;cases v'<;>simp[bh]at hv;obtain⟨rfl,rfl,rfl⟩:=hv;obtain⟨o,h2,rfl |⟨h3,_⟩⟩:=ho _ _ h
  ·exact .mR _ _ _ cv h2 h1
  ·have:=Da.1 h3.symm;subst this;exact .mR _ _ _ cv h2 h1
 |ref id sz off len b o cap cap' rows h hb hl hc jC =>
  intro v' hv;cases v'<;>simp[bh]at hv;obtain⟨rfl,rfl,rfl,rfl⟩:=hv;obtain⟨x,h2,rfl |⟨h3,h4⟩⟩:=ho _ _ h
  ·exact .ku _ _ _ _ _ h2 rfl
  ·cases x<;>simp[bM]at h3;obtain⟨rfl,rfl⟩:=h3;exact .ref _ _ _ _ b o cap cap' _ h2 (h4.trans hb) (by simpa using hl) hc jC
 |lL id sz h hb =>
  intro v' hv;cases v'<;>simp[bh]at hv;obtain⟨rfl,rfl,rfl,rfl⟩:=hv;obtain⟨x,h2,rfl |⟨h3,h4⟩⟩:=ho _ _ h
  ·exact .ku _ _ _ _ _ h2 rfl
  ·cases x<;>simp[bM]at h3;obtain⟨rfl,h3⟩:=h3;subst h3;exact .lL _ _ h2 (h4.trans hb)
 |mo id sz off b x bo rows h hb hl =>
  intro v' hv;cases v'<;>simp[bh]at hv;obtain⟨rfl,rfl,rfl,rfl⟩:=hv;obtain⟨y,h2,rfl |⟨h3,h4⟩⟩:=ho _ _ h
  ·exact .ku _ _ _ _ _ h2 rfl
  ·cases y<;>simp[bM]at h3;obtain⟨rfl,rfl⟩:=h3;exact .mo _ _ _ b x bo _ h2 (h4.trans hb) (by simpa using hl)
 |nx id c b cap cells h hb =>
  intro v' hv;cases v'<;>simp[bh]at hv;obtain⟨rfl,rfl,rfl⟩:=hv;obtain⟨y,h2,rfl |⟨h3,h4⟩⟩:=ho _ _ h
  ·exact .mR _ _ _ _ h2 rfl
  ·cases y<;>simp[bM]at h3;exact .nx _ _ b cap _ h2 (h4.trans hb)
 |oa id r c sz b o cap rows h hb =>
  intro v' hv;cases v'<;>simp[bh]at hv;obtain⟨rfl,rfl,rfl⟩:=hv;obtain⟨y,h2,rfl |⟨h3,h4⟩⟩:=ho _ _ h
  ·exact .mR _ _ _ _ h2 rfl
  ·cases y<;>simp[bM]at h3;obtain⟨rfl,rfl⟩:=h3;exact .oa _ _ _ _ b o cap _ h2 (h4.trans hb)
 |agg cs bg hs _ ih =>
  intro v' hv;cases v'<;>simp[bh,wL]at hv;rename_i q9;subst hv;exact .agg _ bg (by simpa using hs) (λj x hx=>ih j (bh ρ x) (by simp[hx]) x rfl)
 |bx cs bg hs _ ih =>
  intro v' hv;cases v'<;>simp[bh,wL]at hv;rename_i q9;subst hv;exact .bx _ bg (by simpa using hs) (λj x hx=>ih j (bh ρ x) (by simp[hx]) x rfl)
 |fn f cs bg hs _ ih =>
  intro v' hv;cases v'<;>simp[bh,wL]at hv;obtain⟨rfl,hv⟩:=hv;subst hv;exact .fn _ _ bg (by simpa using hs) (λj x hx=>ih j (bh ρ x) (by simp[hx]) x rfl)
 |iv t v cv _ ih =>
  intro v' hv;cases v'<;>simp[bh]at hv;obtain⟨rfl,hv⟩:=hv;exact .iv _ _ cv (ih _ hv)
 |db id b ag L h hb =>
  intro v' hv;cases v'<;>simp[bh]at hv;subst hv;obtain⟨y,h2,rfl |⟨h3,h4⟩⟩:=ho _ _ h
  ·exact .qc _ _ h2 rfl
  ·cases y<;>simp[bM]at h3;obtain⟨rfl,h3⟩:=h3;exact .db _ b _ _ h2 (h4.trans hb)
 |qc id cv h h1 =>
  intro v' hv;cases v'<;>simp[bh]at hv;subst hv;obtain⟨y,h2,rfl |⟨h3,h4⟩⟩:=ho _ _ h
  ·exact .qc _ _ h2 h1
  ·exact .qc _ _ (by rw[h2,Da.1 h3.symm]) h1
def JV(P : Program)(f : FuncId): Prop := ∃ fn, P.funcs[f]? = some fn /\ (fn.name == "runtime.NumGoroutine") = false /\ fn.body.isNone = false
def Holds(P:Program)(f:FuncId)(args:List AV)(aa:List Ob)(res:AV)(bb:List Ob):Prop :=
 JV P f/\∀ γ:Cx,γ.tmps.size=args.length->bk ⟨λk=>args.getD k .undef,aa⟩ γ ->
  Calls P f γ.tmps γ.w (λe w'=>∃ cv aB,e=.returned cv/\aB.w=w'/\aB.tmps = #[cv]/\bk ⟨λk=>[res].getD k .undef,bb⟩ aB/\Fr aa γ bb aB)
inductive dU(σ:St)(kp:Nat->Prop):AV->AV->Prop
 |lit (x:Value):dU σ kp (.lit x) (.lit x)
 |tree (s:Nat) (r:List (List AV)):dU σ kp (.tree s r) (.tree s r)
 |nil (sz:Nat):dU σ kp (.tree sz []) (.lit (.slice none 0 0))
 |ref (id sz off len:Nat) (rows gD:List (List AV)) (g:Nat->Nat->AV) (ho:σ.aa[id]?=some (.arr sz rows)) (rZ:¬ kp id) (hl:gD.length=((rows.drop off).take len).length) (hw:∀ row∈gD,row.length=sz)
   (h1:∀ r c v,cellAt gD r c=some v->cellAt ((rows.drop off).take len) r c=some (g r c)) (h2:∀ r c v,cellAt gD r c=some v->dU σ kp v (g r c)):dU σ kp (.tree sz gD) (.ref id sz off len)
inductive cC(σ:St)(kp:Nat->Prop)(ρ:Nat->Nat)(snap:Bool):AV->AV->Prop
 |same (v:AV):cC σ kp ρ snap v (bh ρ v)
 |snap (c d:AV) (hs:snap=true) (h:dU σ kp c d):cC σ kp ρ snap c d
 |agg (cs ds:List AV) (hl:cs.length=ds.length) (h:∀ (j:Nat) c d,cs[j]?=some c->ds[j]?=some d->cC σ kp ρ snap c d):cC σ kp ρ snap (.agg cs) (.agg ds)
 |bx (cs ds:List AV) (hl:cs.length=ds.length) (h:∀ (j:Nat) c d,cs[j]?=some c->ds[j]?=some d->cC σ kp ρ snap c d):cC σ kp ρ snap (.bx cs) (.bx ds)
def bq(n:Nat)(ak:List Nat)(j:Nat):Nat:=if j<ak.length then ak.getD j 0 else n+(j-ak.length)
def fc(aa:List Ob):List Nat->List Ob->List Ob
 |i::ak,o::new=>fc (aa.set i o) ak new
 |[],new=>aa++new
 |_::_,[]=>aa
def JQ(ak:List Nat):∀ (aa new:List Ob),ak.length<=new.length->(fc aa ak new).length=aa.length+(new.length-ak.length):=by
 induction ak with
 |nil=>intro aa new _;simp[fc]
 |cons i ak ih =>
  intro aa new h;cases new with
  |nil=>simp at h
  |cons o new=>simp only[fc];rw[ih _ _ (by simpa using h)];simp
def FR(ak:List Nat):∀ (aa new:List Ob),ak.length<=new.length->ak.Nodup->(∀ i∈ak,i<aa.length)->∀ j,j<ak.length->(fc aa ak new)[ak.getD j 0]?=new[j]?:=by
 induction ak with
 |nil=>intro aa new _ _ _ j hj;simp at hj
 |cons i ak ih =>
  intro aa new h hn hl j hj;cases new with
  |nil=>simp at h
  |cons o new =>
   simp only[fc];rw[List.nodup_cons]at hn;have hi:=hl i Fl;have h':ak.length<=new.length:=by simpa using h
   cases j with
   |zero =>
    simp only[List.getD_cons_zero,uV];have key:∀ (ak:List Nat) (aa new:List Ob),ak.length<=new.length->i ∉ ak->i<aa.length->(fc aa ak new)[i]?=aa[i]?:=by
     intro ak
     induction ak with
     |nil=>intro aa new _ _ hi;simp only[fc];rw[er hi]
     |cons k ak Bh =>
      intro aa new h vo hi;cases new with
      |nil=>simp at h
      |cons o new =>
       simp only[a8,not_or]at vo;simp only[fc];rw[Bh _ _ (by simpa using h) vo.2 (by simpa using hi),fN (Ne.symm vo.1)]
    rw[key ak _ _ h' hn.1 (by simpa using hi)];simp[hi]
   |succ j =>
    simp only[List.getD_cons_succ,rU];exact ih _ _ h' hn.2 (λk hk=>by simpa using hl k (by simp[hk])) j (by simpa using hj)
def FU(ak:List Nat):∀ (aa new:List Ob),ak.length<=new.length->∀ i,i ∉ ak->i<aa.length->(fc aa ak new)[i]?=aa[i]?:=by
 induction ak with
 |nil=>intro aa new _ i _ hi;simp only[fc];rw[er hi]
 |cons k ak ih =>
  intro aa new h i vo hi;cases new with
  |nil=>simp at h
  |cons o new =>
   simp only[a8,not_or]at vo;simp only[fc];rw[ih _ _ (by simpa using h) i vo.2 (by simpa using hi),fN (Ne.symm vo.1)]
def QR(ak:List Nat):∀ (aa new:List Ob),ak.length<=new.length->∀ m,(fc aa ak new)[aa.length+m]?=new[ak.length+m]?:=by
 induction ak with
 |nil=>intro aa new _ m;simp only[fc];rw[gN CZ];simp
 |cons k ak ih =>
  intro aa new h m;cases new with
  |nil=>simp at h
  |cons o new =>
   simp only[fc];have:=ih (aa.set k o) new (by simpa using h) m;simp only[List.length_set]at this;rw[this];simp only[cV];have e:ak.length+1+m=(ak.length+m)+1:=CZ;rw[e];simp
end Go.Am
namespace Go.Am
variable {P:Program}
def FV(P:Program)(f:FuncId)(args:List AV)(σ:St)(K:AV->St->Prop):Prop :=
 ∃ (ak:List Nat) (snap:Bool) (dp:List AV) (bW:List Ob) (res:AV) (cS:List Ob),Holds P f dp bW res cS /\
  (ak.Nodup/\bW.length=ak.length/\(∀ (j:Nat) o,bW[j]?=some o->σ.aa[ak.getD j 0]?=some (bM (bq σ.aa.length ak) o)) /\
   dp.length=args.length/\(∀ (j:Nat) c d,dp[j]?=some c->args[j]?=some d->cC σ (·∈ak) (bq σ.aa.length ak) snap c d) /\
   (snap=true->flat res=true/\∀ o∈cS,C4 o)) /\
  K (bh (bq σ.aa.length ak) res) { σ with aa:=fc σ.aa ak (cS.map (bM (bq σ.aa.length ak))) }
def dU.zl{σ:St}{γ:Cx}(h:bk σ γ){kp:Nat->Prop}{γc:Cx}(hz:∀ b,γ.Z b->γc.Z b)(hw:γc.w=γ.w)(JX:∀ id b o cap,¬ kp id->Live σ.aa id->γ.blk id=some (b,o,cap)->γc.Z b){c d:AV}(ha:dU σ kp c d):∀ cv,aw σ.aa γ.w γ.Z γ.blk d cv->iu γc.w γc.Z c cv:=by
 induction ha with
 |lit x=>intro cv hv;rw[hv.cz];exact .lit x
 |tree s r=>intro cv hv;exact hv.zm.mono (λb hb=>⟨hz b hb,by rw[hw]⟩)
 |nil sz=>intro cv hv;rw[hv.cz];exact .nil sz 0 none
 |ref id sz off len rows gD g bK rZ hl0 C7 vn nW ih =>
  intro cv hv;obtain⟨h0,cr,hblk⟩:=h.dz id _ bK;have bO:Live σ.aa id:=⟨_,bK,Fl⟩;cases hv with
  |cJ _ _ h=>cases h
  |ku _ _ _ _ _ h=>rw[bK]at h;simp at h
  |lL _ _ h' hb =>
   have:gD=[]:=AS (by simpa using hl0);subst this;exact iu.nil sz 0 none
  |mo _ _ _ b x bo ad8 h' hb hl =>
   have:gD=[]:=AS (by simpa using hl0);subst this;exact iu.nil sz 0 (some ⟨b,x,none⟩)
  |ref _ _ _ _ b o cap cap' ad8 h' hb hl hc jC =>
   rw[bK]at h';simp at h';subst h';rcases hblk with⟨h1,_⟩|⟨b',o',Db,cur,t,h1,h2,h3,h4,h5,h6⟩
   ·rw[hb]at h1;simp at h1
   ·rw[hb]at h1;simp at h1;obtain⟨rfl,rfl,rfl⟩:=h1;have hlen:((rows.drop off).take len).length=len:=Jo;have vc:∀ r c v,cellAt ((rows.drop off).take len) r c=some v->cellAt rows (off+r) c=some v/\r<len:=by
     intro r c v hv;simp only[cellAt,List.getElem?_take,List.getElem?_drop]at hv;split at hv
     ·exact⟨hv,by assumption⟩
     ·simp at hv
    have Jt:γc.Z b:=JX id b o cap rZ bO hb;have:=iu.tree (w:=γc.w) (Z:=γc.Z) sz gD b (o+off*sz) cap' (λr c=>cur.getD (o+((off+r)*sz+c)) Go.undef) Jt
     C7 (by rw[hl0,hlen];exact jC)
     (λr c v hv=>by
      obtain⟨qf,hr⟩:=vc r c _ (vn r c v hv);obtain⟨vb,fI⟩:=Dc cr qf;have ba:=zn (show off+r<cap by omega) fI;rw[hw];have e:o+off*sz+(r*sz+c)=o+((off+r)*sz+c):=by rw[Nat.add_mul];omega
      rw[e];exact zo h2 CZ)
     (λr c v hv=>by
      obtain⟨qf,_⟩:=vc r c _ (vn r c v hv);exact ih r c v hv _ (h6 _ _ _ qf))
    rw[hl0,hlen]at this;exact this
def cC.rel{σ:St}{γ:Cx}(h:bk σ γ){kp:Nat->Prop}{ρ:Nat->Nat}{bW:List Ob}{snap:Bool}{γc:Cx}(hz:∀ b,γ.Z b->γc.Z b)(hw:γc.w=γ.w)(JX:snap=true->∀ id b o cap,¬ kp id->Live σ.aa id->γ.blk id=some (b,o,cap)->γc.Z b)(ho:∀ j x,σ.aa[ρ j]?=some x->∃ o,bW[j]?=some o/\(o=.gone\/(x=bM ρ o/\γc.blk j=γ.blk (ρ j)))){c d:AV}(ha:cC σ kp ρ snap c d):∀ cv,aw σ.aa γ.w γ.Z γ.blk d cv->aw bW γc.w γc.Z γc.blk c cv:=by
 induction ha with
 |same v =>
  intro cv hv;rw[hw];exact hv.down hz ho v rfl
 |snap c d hs hf =>
  intro cv hv;exact .cJ _ _ (hf.zl h hz hw (JX hs) cv hv)
 |agg cs ds hl _ ih =>
  intro cv hv;obtain⟨bg,rfl,h1,h2⟩:=hv.QU;refine .agg cs bg CZ (λj x hx=>?_);have hj:j<ds.length:=by have:=(aT.1 hx).1;omega
  exact ih j x ds[j] hx (by simp[hj]) _ (h2 j _ (by simp[hj]))
 |bx cs ds hl _ ih =>
  intro cv hv;obtain⟨bg,rfl,h1,h2⟩:=hv.QV;refine .bx cs bg CZ (λj x hx=>?_);have hj:j<ds.length:=by have:=(aT.1 hx).1;omega
  exact ih j x ds[j] hx (by simp[hj]) _ (h2 j _ (by simp[hj]))
def QW{n:Nat}{ak:List Nat}(_hs:∀ i∈ak,i<n){j:Nat}(h:bq n ak j<n):j<ak.length/\bq n ak j=ak.getD j 0:=by
 unfold bq at h ⊢;split
 ·exact⟨by assumption,rfl⟩
 ·rename_i hj;rw[if_neg hj]at h;omega
def aF{ak:List Nat}{j:Nat}(h:j<ak.length):ak.getD j 0∈ak:=by
 rw[az];simp[h]
def QX{ak:List Nat}(hn:ak.Nodup){i j:Nat}(hi:i<ak.length)(hj:j<ak.length)(h:ak.getD i 0=ak.getD j 0):i=j:=by
 rw[az,az]at h;simp[hi,hj]at h;exact(List.getElem_inj hn).1 h
def FY{ak:List Nat}{i:Nat}(h:i∈ak):∃j,j<ak.length/\ak.getD j 0=i:=by
 obtain⟨j,hj⟩:=List.mem_iff_getElem?.1 h;have:=(aT.1 hj).1;exact⟨j,this,by rw[az,hj];rfl⟩
def dZ(P:Program)(f:FuncId)(args:List AV)(aa:List Ob)(je:AV->List Ob->Prop):Prop :=
 JV P f/\∀ γ:Cx,γ.tmps.size=args.length->bk ⟨λk=>args.getD k .undef,aa⟩ γ ->
  Calls P f γ.tmps γ.w (λe w'=>∃ res bb cv aB,je res bb/\e=.returned cv/\aB.w=w'/\aB.tmps = #[cv]/\bk ⟨λk=>[res].getD k .undef,bb⟩ aB/\Fr aa γ bb aB)
def JY(P:Program)(f:FuncId)(args:List AV)(σ:St)(K:AV->St->Prop):Prop :=
 ∃ (ak:List Nat) (snap:Bool) (dp:List AV) (bW:List Ob) (je:AV->List Ob->Prop),dZ P f dp bW je /\
  (ak.Nodup/\bW.length=ak.length/\(∀ (j:Nat) o,bW[j]?=some o->σ.aa[ak.getD j 0]?=some (bM (bq σ.aa.length ak) o)) /\
   dp.length=args.length/\(∀ (j:Nat) c d,dp[j]?=some c->args[j]?=some d->cC σ (·∈ak) (bq σ.aa.length ak) snap c d)) /\
  ∀ res cS,je res cS->(snap=true->flat res=true/\∀ o∈cS,C4 o) /\
   K (bh (bq σ.aa.length ak) res) { σ with aa:=fc σ.aa ak (cS.map (bM (bq σ.aa.length ak))) }
def QY{σ:St}{γ:Cx}(h:bk σ γ){f:FuncId}{args:List AV}{argv:Array Value}(aO:argv.size=args.length)(JZ:∀ (j:Nat) d,args[j]?=some d->aw σ.aa γ.w γ.Z γ.blk d (argv.getD j Go.undef)){K:AV->St->Prop}(hc:JY P f args σ K):
  Calls P f argv γ.w (λe w'=>∃ cv v σ' aB,e=.returned cv/\aB.w=w'/\aB.tmps=γ.tmps/\bk σ' aB/\Fr σ.aa γ σ'.aa aB/\aw σ'.aa aB.w aB.Z aB.blk v cv/\K v σ'/\σ'.env=σ.env):=by
 obtain⟨ak,snap,dp,bW,je,hH,⟨bT,bz,uc,kO,nt⟩,hKP⟩:=hc;have ln:∀ i∈ak,i<σ.aa.length:=by
  intro i hi;obtain⟨j,hj,rfl⟩:=FY hi;have:j<bW.length:=CZ;exact(aT.1 (uc j bW[j] (by simp[this]))).1
 let ρ:=bq σ.aa.length ak
 let S:Nat->Prop:=λb=>snap=true/\∃ id o cap,id ∉ ak/\Live σ.aa id/\γ.blk id=some (b,o,cap)
 let γc:Cx:={ w:=γ.w,tmps:=argv,Z:=λb=>γ.Z b\/S b,blk:=λj=>if j<ak.length then γ.blk (ak.getD j 0) else none }
 have wM:∀ j x,σ.aa[ρ j]?=some x->∃ o,bW[j]?=some o/\(o=.gone\/(x=bM ρ o/\γc.blk j=γ.blk (ρ j))):=by
  intro j x hx;obtain⟨hj,hr⟩:=QW ln (aT.1 hx).1;have mq:j<bW.length:=CZ;have:=uc j bW[j] (by simp[mq]);refine⟨bW[j],by simp[mq],.inr ⟨?_,?_⟩⟩
  ·have bZ:σ.aa[bq σ.aa.length ak j]?=some x:=hx;rw[hr,this]at bZ;simpa using bZ.symm
  ·show(if j<ak.length then γ.blk (ak.getD j 0) else none)=γ.blk (bq σ.aa.length ak j);rw[if_pos hj,hr]
 have jo:∀ b,γ.Z b->γc.Z b:=λb hb=>.inl hb;have vp:∀ j,Live bW j->Live σ.aa (ak.getD j 0)/\j<ak.length:=by
  rintro j⟨o,ho,hg⟩;have hj:=(aT.1 ho).1;exact⟨⟨_,uc j o ho,λe=>hg (Da.1 e)⟩,CZ⟩
 have wN:=λ{i b o c}=>h.blt (i:=i) (b:=b) (o:=o) (c:=c);have J0:bk ⟨λk=>dp.getD k .undef,bW⟩ γc:=by
  refine⟨λk=>?_,?_,?_,?_,?_,λg=>x8 (h.gl g) λb hb=>⟨jo b hb,rfl⟩⟩
  ·rcases dw k dp.length with hk|hk
   ·have e:dp.getD k .undef=dp[k]:=by simp[hk]
    show aw bW γc.w γc.Z γc.blk (dp.getD k .undef) _;rw[e];have QZ:k<args.length:=CZ;exact(nt k dp[k] args[k] (by simp[hk]) (by simp[QZ])).rel h jo rfl (λhs id b o cap bV hl hb=>.inr ⟨hs,id,o,cap,bV,hl,hb⟩) wM _ (JZ k _ (by simp[QZ]))
   ·have e:dp.getD k .undef=.undef:=by simp[hk]
    show aw bW γc.w γc.Z γc.blk (dp.getD k .undef) _;rw[e];exact .undef _
  ·intro j o ho;have hj:=(aT.1 ho).1;have Dd:j<ak.length:=by rw[<- bz];exact hj
   have bK:=h.dz _ _ (uc j o ho);have hb:γc.blk j=γ.blk (ak.getD j 0):=by show(if j<ak.length then _ else _)=_;rw[if_pos Dd]
   cases o with
   |gone=>trivial
   |var cells =>
    obtain⟨b,cap,cur,t,h1,h2,h3,h4⟩:=bK;exact⟨b,cap,cur,t,hb.trans h1,h2,by simpa using h3,λc v hv=>(h4 c (bh ρ v) (by simp[hv];rfl)).down jo wM v rfl⟩
   |mp ag L =>
    obtain⟨b,f,h1,h2,h3,h4⟩:=bK;refine⟨b,f,hb.trans h1,?_,λp hp=>h3 (p.1,bh ρ p.2) (CR (f:=λp:List Int×AV=>(p.1,bh ρ p.2)) hp),λj p hp=>(h4 j (p.1,bh ρ p.2) (by simp only[bY,hp];rfl)).down jo wM p.2 rfl⟩;rw[J1,eu]at h2;exact h2
   |arr sz rows =>
    obtain⟨h0,hr,bK⟩:=bK;refine⟨h0,λrow bR=>by simpa using hr (row.map (bh ρ)) (CR bR),?_⟩;rcases bK with⟨h1,h2⟩|⟨b,o,cap,cur,t,h1,h2,h3,h4,h5,h6⟩
    ·exact .inl ⟨hb.trans h1,by simpa using h2⟩
    ·refine .inr ⟨b,o,cap,cur,t,hb.trans h1,h2,h3,by simpa using h4,h5,λr c v hv=>(h6 r c (bh ρ v) ?_).down jo wM v rfl⟩;simp only[cellAt,bY]at hv ⊢;cases gU:rows[r]? with
     |none=>simp[gU]at hv
     |some row=>simp[gU]at hv ⊢;exact⟨v,hv,rfl⟩
  ·intro i j b o c o' c' hi hj fh gV;obtain⟨h1,h2⟩:=vp i hi;obtain⟨h3,h4⟩:=vp j hj;have e1:γc.blk i=γ.blk (ak.getD i 0):=by show(if i<ak.length then _ else _)=_;rw[if_pos h2]
   have e2:γc.blk j=γ.blk (ak.getD j 0):=by show(if j<ak.length then _ else _)=_;rw[if_pos h4]
   exact QX bT h2 h4 (h.inj _ _ b o c o' c' h1 h3 (e1▸fh) (e2▸gV))
  ·rintro b ⟨i,o,c,hi,hb⟩ hz;obtain⟨h1,h2⟩:=vp i hi;have e1:γc.blk i=γ.blk (ak.getD i 0):=by show(if i<ak.length then _ else _)=_;rw[if_pos h2]
   rw[e1]at hb;rcases hz with hz|⟨_,id,o',cap',bV,hl,aV⟩
   ·exact h.nz b ⟨_,o,c,h1,hb⟩ hz
   ·have:=h.inj _ _ b o c o' cap' h1 hl hb aV;exact bV (this▸aF h2)
  ·rintro b (hb|⟨_,id,o,cap,_,hl,hb⟩)
   ·exact h.gk b hb
   ·exact wN hl hb
 have oc:=hH.2 γc (by show argv.size=_;omega) J0;refine oc.mono ?_;rintro e w'⟨res,cS,cv,aB,J2,rfl,rfl,Jv,iK,eV⟩;obtain⟨Q3,hK⟩:=hKP res cS J2;have aea:ak.length<=cS.length:=by have:=eV.len;omega
 let new:=cS.map (bM ρ)
 have ao:ak.length<=new.length:=by simpa [new] using aea
 let o5:=fc σ.aa ak new
 let jq:Cx:={ w:=aB.w,tmps:=γ.tmps,Z:=λb=>aB.Z b/\¬ S b,blk:=λi=>if i<σ.aa.length then γ.blk i else aB.blk (ak.length+(i-σ.aa.length)) }
 have ny:∀ j o,cS[j]?=some o->o5[ρ j]?=some (bM ρ o)/\(o≠.gone->jq.blk (ρ j)=aB.blk j):=by
  intro j o ho;by_cases hj:j<ak.length
  ·have e:ρ j=ak.getD j 0:=by show bq _ _ _=_;simp only[bq];rw[if_pos hj]
   have cD:=ln _ (aF hj);refine⟨?_,λhg=>?_⟩
   ·rw[e];show(fc σ.aa ak new)[ak.getD j 0]?=_;rw[FR ak σ.aa new ao bT ln j hj];simp[new,ho]
   ·rw[e];show(if ak.getD j 0<σ.aa.length then _ else _)=_;rw[if_pos cD];have:=(eV.dV j CZ ⟨o,ho,hg⟩).1;rw[this];show _=if j<ak.length then _ else _;rw[if_pos hj]
  ·have e:ρ j=σ.aa.length+(j-ak.length):=by show bq _ _ _=_;simp only[bq];rw[if_neg hj]
   have e2:ak.length+(j-ak.length)=j:=CZ;refine⟨?_,λhg=>?_⟩
   ·rw[e];show(fc σ.aa ak new)[_]?=_;rw[QR ak σ.aa new ao,e2];simp[new,ho]
   ·rw[e];show(if σ.aa.length+(j-ak.length)<σ.aa.length then _ else aB.blk (ak.length+(σ.aa.length+(j-ak.length)-σ.aa.length)))=_;rw[if_neg CZ];congr 1;omega
 have Q4:∀ b,S b->¬ γ.Z b:=by
  rintro b⟨_,id,o,cap,_,hl,hb⟩;exact h.nz b ⟨id,o,cap,hl,hb⟩
 have Bi:∀ b,od bW γc.blk b->∃ i∈ak,∃ o cap,Live σ.aa i/\γ.blk i=some (b,o,cap):=by
  rintro b⟨j,o,c,hl,hb⟩;obtain⟨h1,h2⟩:=vp j hl;have e1:γc.blk j=γ.blk (ak.getD j 0):=by show(if j<ak.length then _ else _)=_;rw[if_pos h2]
  exact⟨_,aF h2,o,c,h1,e1▸hb⟩
 have J3:∀ i,i ∉ ak->Live σ.aa i->∀ b o c,γ.blk i=some (b,o,c)->aB.w.heap[b]?=γ.w.heap[b]?:=by
  intro i hi hl b o c hb;refine eV.dS b (wN hl hb) (λho=>?_);obtain⟨i',aq,o',c',jR,aV⟩:=Bi b ho;have:=h.inj _ _ b o c o' c' hl jR hb aV;exact hi (this▸aq)
 have J4:∀ v cv,aw σ.aa γ.w γ.Z γ.blk v cv->aw o5 jq.w jq.Z jq.blk v cv:=by
  intro v cv hv;refine hv.mono (λb hb=>⟨⟨eV.z0 b (jo b hb),λhs=>Q4 b hs hb⟩,?_⟩) (λi o ho=>?_)
  ·refine eV.dS b (h.gk b hb) (λho=>?_);obtain⟨i',_,o',c',jR,aV⟩:=Bi b ho;exact h.nz b ⟨i',o',c',jR,aV⟩ hb
  ·have hi:=(aT.1 ho).1;have fS:jq.blk i=γ.blk i:=by show(if i<σ.aa.length then _ else _)=_;rw[if_pos hi]
   by_cases nA:i∈ak
   ·obtain⟨j,hj,rfl⟩:=FY nA;have mq:j<cS.length:=CZ;have zq:o5[ak.getD j 0]?=some (bM ρ cS[j]):=by
     show(fc σ.aa ak new)[ak.getD j 0]?=_;rw[FR ak σ.aa new ao bT ln j hj];simp[new,mq]
    by_cases hg:cS[j]=.gone
    ·left;rw[zq,hg];rfl
    ·right;refine⟨fS,_,zq,?_⟩;obtain⟨_,x,x',hx,bZ,jS⟩:=eV.dV j CZ ⟨cS[j],by simp[mq],hg⟩;have e1:cS[j]=x':=by simpa [mq] using bZ
     have e2:=uc j x hx;rw[ho]at e2;simp at e2;rw[e1,e2];exact Ob.ad7 jS
   ·have zq:o5[i]?=some o:=by
     show(fc σ.aa ak new)[i]?=_;rw[FU ak σ.aa new ao i nA hi];exact ho
    by_cases hg:o=.gone
    ·subst hg;exact .inl zq
    ·exact .inr ⟨fS,o,zq,Ob.jr hg⟩
 have FZ:∀ v cv,aw cS aB.w aB.Z aB.blk v cv->(snap=true->flat v=true)->aw o5 jq.w jq.Z jq.blk (bh ρ v) cv:=by
  intro v cv hv iL;by_cases eN:snap=true
  ·exact(hv.ad6 (Z':=jq.Z) (iL eN)).up (λb hb=>hb) ny
  ·exact hv.up (λb hb=>⟨hb,λhs=>eN hs.1⟩) ny
 have re:∀ i,Live o5 i->(i<σ.aa.length/\i ∉ ak/\Live σ.aa i/\jq.blk i=γ.blk i)\/∃ j,Live cS j/\i=ρ j/\jq.blk i=aB.blk j:=by
  rintro i⟨o,ho,hg⟩;have hlen:=(aT.1 ho).1;have FT:o5.length=σ.aa.length+(new.length-ak.length):=JQ ak σ.aa new ao;have Q5:new.length=cS.length:=by simp[new]
  rcases dw i σ.aa.length with hi|hi
  ·by_cases nA:i∈ak
   ·right;obtain⟨j,hj,rfl⟩:=FY nA;have mq:j<cS.length:=CZ;have e:ρ j=ak.getD j 0:=by show bq _ _ _=_;simp only[bq];rw[if_pos hj]
    have hx:=ny j cS[j] (by simp[mq]);rw[e]at hx;rw[ho]at hx;simp only[cy.injEq]at hx;have sw:cS[j]≠.gone:=by intro h0;apply hg;rw[hx.1,h0];rfl
    exact⟨j,⟨_,by simp[mq],sw⟩,e.symm,hx.2 sw⟩
   ·left;have:o5[i]?=σ.aa[i]?:=FU ak σ.aa new ao i nA hi;rw[this]at ho;exact⟨hi,nA,⟨o,ho,hg⟩,by show(if i<σ.aa.length then _ else _)=_;rw[if_pos hi]⟩
  ·right;have mq:ak.length+(i-σ.aa.length)<cS.length:=CZ;have e:ρ (ak.length+(i-σ.aa.length))=i:=by
    show bq _ _ _=_;simp only[bq];rw[if_neg CZ];omega
   have hx:=ny _ _ (show cS[ak.length+(i-σ.aa.length)]?=some cS[ak.length+(i-σ.aa.length)] by simp[mq]);rw[e]at hx;rw[ho]at hx;simp only[cy.injEq]at hx;have sw:cS[ak.length+(i-σ.aa.length)]≠.gone:=by intro h0;apply hg;rw[hx.1,h0];rfl
   exact⟨_,⟨_,by simp[mq],sw⟩,e.symm,hx.2 sw⟩
 have J5:∀ j b o c,Live cS j->aB.blk j=some (b,o,c)->(∃ i∈ak,∃ o cap,Live σ.aa i/\γ.blk i=some (b,o,cap))\/γ.w.heap.size<=b:=by
  intro j b o c hl hb;rcases eV.own b ⟨j,o,c,hl,hb⟩ with h1|h1
  ·exact .inl (Bi b h1)
  ·exact .inr h1
 have aeb:bk ⟨σ.env,o5⟩ jq:=by
  refine⟨λk=>J4 _ _ (h.ar k),?_,?_,?_,?_,λg=>J4 _ _ (h.gl g)⟩
  ·intro i o ho;by_cases cG:o=.gone
   ·subst cG;trivial
   rcases re i ⟨o,ho,cG⟩ with⟨hi,nA,hl,fS⟩|⟨j,⟨x,hx,eF⟩,rfl,fS⟩
   ·have he:o5[i]?=σ.aa[i]?:=FU ak σ.aa new ao i nA hi;have cH:σ.aa[i]?=some o:=by rw[<- he];exact ho
    exact(h.dz i o cH).mono J4 fS (λb o c hb=>J3 i nA hl b o c hb)
   ·have zr:=(ny j x hx).1;have e:o=bM ρ x:=by
     have:o5[ρ j]?=some o:=ho;rw[zr]at this;simpa using this.symm
    subst e;have bK:=iK.dz j x hx;have iL:snap=true->C4 x:=λhs=>(Q3 hs).2 x (ik hx);cases x with
    |gone=>trivial
    |var cells =>
     obtain⟨b,cap,cur,t,h1,h2,h3,h4⟩:=bK;refine⟨b,cap,cur,t,fS.trans h1,h2,by simpa using h3,λc v hv=>?_⟩;simp only[bY,uT]at hv;obtain⟨y,hy,rfl⟩:=hv;exact FZ _ _ (h4 c y hy) (λhs=>iL hs y (ik hy))
    |mp ag L =>
     obtain⟨b,f,h1,h2,h3,h4⟩:=bK;refine⟨b,f,fS.trans h1,?_,λp hp=>?_,λj p hp=>?_⟩
     ·rw[J1,eu];exact h2
     ·obtain⟨y,hy,rfl⟩:=b6.1 hp;exact h3 y hy
     ·simp only[bY,uT]at hp;obtain⟨y,hy,rfl⟩:=hp;exact FZ _ _ (h4 j y hy) (λhs=>iL hs y (ik hy))
    |arr sz rows =>
     obtain⟨h0,hr,bK⟩:=bK;refine⟨h0,?_,?_⟩
     ·intro row bR;simp only[b6]at bR;obtain⟨y,hy,rfl⟩:=bR;simpa using hr y hy
     ·rcases bK with⟨h1,h2⟩|⟨b,o,cap,cur,t,h1,h2,h3,h4,h5,h6⟩
      ·exact .inl ⟨fS.trans h1,by simpa using h2⟩
      ·refine .inr ⟨b,o,cap,cur,t,fS.trans h1,h2,h3,by simpa using h4,h5,λr c v hv=>?_⟩;simp only[cellAt,bY]at hv;cases gU:rows[r]? with
       |none=>simp[gU]at hv
       |some row =>
        simp only[gU,im,Option.bind_some,bY,uT]at hv;obtain⟨y,hy,rfl⟩:=hv;exact FZ _ _ (h6 r c y (by simp[cellAt,gU,hy])) (λhs=>iL hs row (ik gU) y (ik hy))
  ·intro i j b o c o' c' hi hj fh gV;rcases re i hi with⟨wO,nA,mu,fS⟩|⟨ji,iw,rfl,fS⟩<;>rcases re j hj with⟨gF,Dd,J6,De⟩|⟨jj,Q6,rfl,De⟩
   ·exact h.inj i j b o c o' c' mu J6 (fS▸fh) (De▸gV)
   ·rw[fS]at fh;rw[De]at gV;rcases J5 jj b o' c' Q6 gV with⟨i',aq,o1,c1,jR,aV⟩|iy
    ·exact absurd (h.inj i i' b o c o1 c1 mu jR fh aV) (λe=>nA (e▸aq))
    ·have:=wN mu fh;omega
   ·rw[fS]at fh;rw[De]at gV;rcases J5 ji b o c iw fh with⟨i',aq,o1,c1,jR,aV⟩|iy
    ·exact absurd (h.inj j i' b o' c' o1 c1 J6 jR gV aV) (λe=>Dd (e▸aq))
    ·have:=wN J6 gV;omega
   ·rw[fS]at fh;rw[De]at gV;rw[iK.inj ji jj b o c o' c' iw Q6 fh gV]
  ·rintro b ⟨i,o,c,hi,hb⟩ ⟨hz,vq⟩;rcases re i hi with⟨wO,nA,mu,fS⟩|⟨ji,iw,rfl,fS⟩
   ·rw[fS]at hb;rcases eV.z1 b hz with(h1|h1)|h1|h1
    ·exact h.nz b ⟨i,o,c,mu,hb⟩ h1
    ·exact vq h1
    ·obtain⟨i',aq,o1,c1,jR,aV⟩:=Bi b h1;exact nA ((h.inj i i' b o c o1 c1 mu jR hb aV)▸aq)
    ·have:=wN mu hb;have J7:γ.w.heap.size<=b:=h1;omega
   ·rw[fS]at hb;exact iK.nz b ⟨ji,o,c,iw,hb⟩ hz
  ·rintro b ⟨hz,_⟩;exact iK.gk b hz
 refine⟨cv,bh ρ res,⟨σ.env,o5⟩,jq,rfl,rfl,rfl,aeb,?_,?_,hK,rfl⟩
 ·refine⟨eV.kM,eV.tape,eV.output,eV.size,?_,?_,?_,?_,?_,?_,eV.drawn⟩
  ·intro b hb qg;refine eV.dS b hb (λho=>qg ?_);obtain⟨i',_,o1,c1,jR,aV⟩:=Bi b ho;exact⟨i',o1,c1,jR,aV⟩
  ·intro b hb;exact⟨eV.z0 b (jo b hb),λhs=>Q4 b hs hb⟩
  ·rintro b ⟨hz,vq⟩;rcases eV.z1 b hz with(h1|h1)|h1|h1
   ·exact .inl h1
   ·exact absurd h1 vq
   ·obtain⟨i',_,o1,c1,jR,aV⟩:=Bi b h1;exact .inr (.inl ⟨i',o1,c1,jR,aV⟩)
   ·exact .inr (.inr h1)
  ·rintro b ⟨i,o,c,hi,hb⟩;rcases re i hi with⟨wO,nA,mu,fS⟩|⟨ji,iw,rfl,fS⟩
   ·rw[fS]at hb;exact .inl ⟨i,o,c,mu,hb⟩
   ·rw[fS]at hb;rcases J5 ji b o c iw hb with⟨i',_,o1,c1,jR,aV⟩|iy
    ·exact .inl ⟨i',o1,c1,jR,aV⟩
    ·exact .inr iy
  ·show σ.aa.length<=(fc σ.aa ak new).length;rw[JQ ak σ.aa new ao];omega
  ·rintro i hi ⟨o,ho,hg⟩;refine⟨by show(if i<σ.aa.length then _ else _)=_;rw[if_pos hi],?_⟩;by_cases nA:i∈ak
   ·obtain⟨j,hj,rfl⟩:=FY nA;have mq:j<cS.length:=CZ;have zq:o5[ak.getD j 0]?=some (bM ρ cS[j]):=by
     show(fc σ.aa ak new)[ak.getD j 0]?=_;rw[FR ak σ.aa new ao bT ln j hj];simp[new,mq]
    have dC:o5[ak.getD j 0]?=some o:=ho;rw[zq]at dC;simp only[cy.injEq]at dC;have sw:cS[j]≠.gone:=by intro h0;apply hg;rw[<- dC,h0];rfl
    obtain⟨_,x,x',hx,bZ,jS⟩:=eV.dV j CZ ⟨cS[j],by simp[mq],sw⟩;have e1:cS[j]=x':=by simpa [mq] using bZ
    refine⟨bM ρ x,o,uc j x hx,ho,?_⟩;rw[<- dC,e1];cases x<;>cases x'<;>simp_all [Ob.dO,bM]
   ·have he:o5[i]?=σ.aa[i]?:=FU ak σ.aa new ao i nA hi;have cH:σ.aa[i]?=some o:=by rw[<- he];exact ho
    exact⟨o,o,cH,ho,Ob.jr hg⟩
 ·have:=iK.ar 0;rw[Jv]at this;exact FZ res cv (by simpa using this) (λhs=>(Q3 hs).1)
def Holds.r{f:FuncId}{args:List AV}{aa:List Ob}{res:AV}{bb:List Ob}(h:Holds P f args aa res bb):dZ P f args aa (λr os=>r=res/\os=bb) :=
 ⟨h.1,λγ aO hs=>(h.2 γ aO hs).mono λ_ _ ⟨cv,aB,h1,h2,h3,h4,h5⟩=>⟨res,bb,cv,aB,⟨rfl,rfl⟩,h1,h2,h3,h4,h5⟩⟩
def FV.r{f:FuncId}{args:List AV}{σ:St}{K:AV->St->Prop}(h:FV P f args σ K):JY P f args σ K:=by
 obtain⟨ak,snap,dp,bW,res,cS,h1,⟨h2,h3,h4,h5,h6,h7⟩,h8⟩:=h;exact⟨ak,snap,dp,bW,_,h1.r,⟨h2,h3,h4,h5,h6⟩,λr os ⟨e1,e2⟩=>by subst e1;subst e2;exact⟨h7,h8⟩⟩
def Q7{σ:St}{γ:Cx}(h:bk σ γ){f:FuncId}{args:List AV}{argv:Array Value}(aO:argv.size=args.length)(JZ:∀ (j:Nat) d,args[j]?=some d->aw σ.aa γ.w γ.Z γ.blk d (argv.getD j Go.undef)){K:AV->St->Prop}(hc:FV P f args σ K):
  Calls P f argv γ.w (λe w'=>∃ cv v σ' aB,e=.returned cv/\aB.w=w'/\aB.tmps=γ.tmps/\bk σ' aB/\Fr σ.aa γ σ'.aa aB/\aw σ'.aa aB.w aB.Z aB.blk v cv/\K v σ'/\σ'.env=σ.env) :=
 QY h aO JZ hc.r
end Go.Am
namespace Go.Am
variable {P:Program}
def bk.select{σ:St}{γ:Cx}(h:bk σ γ)(ak:List Nat)(snap:Bool)(bW:List Ob)(bT:ak.Nodup)(bz:bW.length=ak.length)(uc:∀ (j:Nat) o,bW[j]?=some o->o=.gone\/σ.aa[ak.getD j 0]?=some (bM (bq σ.aa.length ak) o))(ln:∀ i∈ak,i<σ.aa.length)(e:Nat->AV)(tm:Array Value)(he:∀ k,e k=.undef\/∃ d,cC σ (λid=>∃ j,j<ak.length/\ak.getD j 0=id/\bW[j]?≠some .gone) (bq σ.aa.length ak) snap (e k) d/\aw σ.aa γ.w γ.Z γ.blk d (tm.getD k Go.undef)):
  ∃ aB,aB.w=γ.w/\aB.tmps=tm/\bk ⟨e,bW⟩ aB/\((∀ i,i<bW.length->aB.blk i=γ.blk (ak.getD i 0))/\(∀ b,γ.Z b->aB.Z b)/\(∀ b,aB.Z b->γ.Z b\/od σ.aa γ.blk b) /\
   ∀ i,Live bW i->Live σ.aa (ak.getD i 0)/\∃ o,bW[i]?=some o/\σ.aa[ak.getD i 0]?=some (bM (bq σ.aa.length ak) o)):=by
 let ρ:=bq σ.aa.length ak
 let kp:Nat->Prop:=λid=>∃ j,j<ak.length/\ak.getD j 0=id/\bW[j]?≠some .gone
 let S:Nat->Prop:=λb=>snap=true/\∃ id o cap,¬ kp id/\Live σ.aa id/\γ.blk id=some (b,o,cap)
 let γc:Cx:={ w:=γ.w,tmps:=tm,Z:=λb=>γ.Z b\/S b,blk:=λj=>if j<ak.length then γ.blk (ak.getD j 0) else none }
 have wM:∀ j x,σ.aa[ρ j]?=some x->∃ o,bW[j]?=some o/\(o=.gone\/(x=bM ρ o/\γc.blk j=γ.blk (ρ j))):=by
  intro j x hx;obtain⟨hj,hr⟩:=QW ln (aT.1 hx).1;have mq:j<bW.length:=CZ;refine⟨bW[j],by simp[mq],?_⟩;rcases uc j bW[j] (by simp[mq]) with hg|this
  ·exact .inl hg
  ·right;refine⟨?_,?_⟩
   ·have bZ:σ.aa[bq σ.aa.length ak j]?=some x:=hx;rw[hr,this]at bZ;simpa using bZ.symm
   ·show(if j<ak.length then γ.blk (ak.getD j 0) else none)=γ.blk (bq σ.aa.length ak j);rw[if_pos hj,hr]
 have jo:∀ b,γ.Z b->γc.Z b:=λb hb=>.inl hb;have vp:∀ j,Live bW j->Live σ.aa (ak.getD j 0)/\j<ak.length/\kp (ak.getD j 0)/\∃ o,bW[j]?=some o/\σ.aa[ak.getD j 0]?=some (bM ρ o):=by
  rintro j⟨o,ho,hg⟩;have hj:=(aT.1 ho).1;rcases uc j o ho with h'|h'
  ·exact absurd h' hg
  ·exact⟨⟨_,h',λe=>hg (Da.1 e)⟩,CZ,⟨j,CZ,rfl,by rw[ho];simpa using hg⟩,o,ho,h'⟩
 have rf:∀ j,j<ak.length->γc.blk j=γ.blk (ak.getD j 0):=λj hj=>by show(if j<ak.length then _ else _)=_;rw[if_pos hj]
 have J0:bk ⟨e,bW⟩ γc:=by
  refine⟨λk=>?_,?_,?_,?_,?_,λg=>x8 (h.gl g) λb hb=>⟨jo b hb,rfl⟩⟩
  ·rcases he k with h0|⟨d,hd,hr⟩
   ·show aw bW γc.w γc.Z γc.blk (e k) _;rw[h0];exact .undef _
   ·exact hd.rel h jo rfl (λhs id b o cap bV hl hb=>.inr ⟨hs,id,o,cap,bV,hl,hb⟩) wM _ hr
  ·intro j o ho;by_cases cG:o=.gone
   ·subst cG;trivial
   obtain⟨_,Dd,_,o',cH,aec⟩:=vp j ⟨o,ho,cG⟩;have:o=o':=by
    have h1:bW[j]?=some o:=ho;rw[cH]at h1;simpa using h1.symm
   subst this;have bK:=h.dz _ _ aec;have hb:=rf j Dd;cases o with
   |gone=>trivial
   |var cells =>
    obtain⟨b,cap,cur,t,h1,h2,h3,h4⟩:=bK;exact⟨b,cap,cur,t,hb.trans h1,h2,by simpa using h3,λc v hv=>(h4 c (bh ρ v) (by simp only[bY,hv];rfl)).down jo wM v rfl⟩
   |mp ag L =>
    obtain⟨b,f,h1,h2,h3,h4⟩:=bK;refine⟨b,f,hb.trans h1,?_,λp hp=>h3 (p.1,bh ρ p.2) (CR (f:=λp:List Int×AV=>(p.1,bh ρ p.2)) hp),λj p hp=>(h4 j (p.1,bh ρ p.2) (by simp only[bY,hp];rfl)).down jo wM p.2 rfl⟩;rw[J1,eu]at h2;exact h2
   |arr sz rows =>
    obtain⟨h0,hr,bK⟩:=bK;refine⟨h0,λrow bR=>by simpa using hr (row.map (bh ρ)) (CR bR),?_⟩;rcases bK with⟨h1,h2⟩|⟨b,o,cap,cur,t,h1,h2,h3,h4,h5,h6⟩
    ·exact .inl ⟨hb.trans h1,by simpa using h2⟩
    ·refine .inr ⟨b,o,cap,cur,t,hb.trans h1,h2,h3,by simpa using h4,h5,λr c v hv=>(h6 r c (bh ρ v) ?_).down jo wM v rfl⟩;simp only[cellAt,bY]at hv ⊢;cases gU:rows[r]? with
     |none=>simp[gU]at hv
     |some row=>simp[gU]at hv ⊢;exact⟨v,hv,rfl⟩
  ·intro i j b o c o' c' hi hj fh gV;obtain⟨h1,h2,_⟩:=vp i hi;obtain⟨h3,h4,_⟩:=vp j hj;exact QX bT h2 h4 (h.inj _ _ b o c o' c' h1 h3 (rf i h2▸fh) (rf j h4▸gV))
  ·rintro b ⟨i,o,c,hi,hb⟩ hz;obtain⟨h1,h2,h3,_⟩:=vp i hi;rw[rf i h2]at hb;rcases hz with hz|⟨_,id,o',cap',bV,hl,aV⟩
   ·exact h.nz b ⟨_,o,c,h1,hb⟩ hz
   ·have:=h.inj _ _ b o c o' cap' h1 hl hb aV;exact bV (this▸h3)
  ·rintro b (hb|⟨_,id,o,cap,_,hl,hb⟩)
   ·exact h.gk b hb
   ·exact h.blt hl hb
 refine⟨γc,rfl,rfl,J0,λi hi=>rf i CZ,jo,?_,?_⟩
 ·rintro b (hb|⟨_,id,o,cap,_,hl,hb⟩)
  ·exact .inl hb
  ·exact .inr ⟨id,o,cap,hl,hb⟩
 ·intro i hi;obtain⟨h1,h2,_,h4⟩:=vp i hi;exact⟨h1,h4⟩
def Ob.aed{ρ:Nat->Nat}{x o:Ob}(h:x.dO (bM ρ o)):x.dO o:=by
 cases x<;>cases o<;>simp[Ob.dO,bM]at h ⊢<;>exact h
def Fr.select{os:List Ob}{γ0 γ aB:Cx}{σ:St}(hf:Fr os γ0 σ.aa γ){ak:List Nat}{bW:List Ob}(hn:os.length<=ak.length)(bz:bW.length=ak.length)(bV:∀ i,i<os.length->ak.getD i 0=i)(hw:aB.w=γ.w)(h:(∀ i,i<bW.length->aB.blk i=γ.blk (ak.getD i 0))/\(∀ b,γ.Z b->aB.Z b)/\(∀ b,aB.Z b->γ.Z b\/od σ.aa γ.blk b) /\
   ∀ i,Live bW i->Live σ.aa (ak.getD i 0)/\∃ o,bW[i]?=some o/\σ.aa[ak.getD i 0]?=some (bM (bq σ.aa.length ak) o)):Fr os γ0 bW aB:=by
 obtain⟨h1,h2,h3,h4⟩:=h;refine⟨by rw[hw];exact hf.kM,by rw[hw];exact hf.tape,by rw[hw];exact hf.output,by rw[hw];exact hf.size,by rw[hw];exact hf.dS,λb hb=>h2 b (hf.z0 b hb),?_,?_,CZ,?_,by rw[hw];exact hf.drawn⟩
 ·intro b hb;rcases h3 b hb with h|h
  ·exact hf.z1 b h
  ·rcases hf.own b h with h|h
   ·exact .inr (.inl h)
   ·exact .inr (.inr h)
 ·rintro b ⟨i,o,c,hi,hb⟩;have ba:=hi.lt;rw[h1 i ba]at hb;exact hf.own b ⟨_,o,c,(h4 i hi).1,hb⟩
 ·intro i hi hl;obtain⟨h5,o,ho,cH⟩:=h4 i hl;rw[bV i hi]at h5 cH;obtain⟨h6,x,x',hx,bZ,hk⟩:=hf.dV i hi h5;refine⟨by rw[h1 i hl.lt,bV i hi];exact h6,x,o,hx,ho,?_⟩;rw[cH]at bZ;simp only[cy.injEq]at bZ;rw[<- bZ]at hk;exact Ob.aed hk
def gf(N:Nat)(os:List Ob)(γ0:Cx)(σ:St)(a:Act)(w:World):Prop :=
 a.defers=[]/\a.tmps.size=N/\∃ γ,γ.w=w/\γ.tmps=a.tmps/\bk σ γ/\Fr os γ0 σ.aa γ
def W(P:Program)(N n0:Nat)(c:Code)(Q:Exit->St->Prop)(σ:St):Prop :=
 ∀ (os:List Ob) (γ0:Cx) (a:Act) (w:World),os.length=n0->gf N os γ0 σ a w->c.wp P (λe a' w'=>∃ σ',Q e σ'/\gf N os γ0 σ' a' w') a w
def rX(P:Program)(g:FuncId)(args:List AV)(dst:Option Tmp)(K:St->Prop)(σ:St):Prop:=FV P g args σ λv σ'=>K (σ'.put dst v)
def FC(P:Program)(t:TypeId)(m:String):Option (FuncId×Option TypeId) :=
 match P.info? t with
 |none=>none
 |some i =>
  match i.methods.find? (·.name==m) with
  |none=>none
  |some r =>
   match r.path.isEmpty,r.func,P.underlying t with
   |true,some (g,pr),some (.pointer e)=>some (g,if pr then none else some e)
   |_,_,_=>none
def oW(P:Program)(σ:St)(v:AV)(K:FuncId->AV->Prop):Option (FuncId×Option TypeId)->Prop
 |some (g,none)=>K g v
 |some (g,some e) =>
  (ty P e).kind≠99 /\
  match v with
  |.ptr id r c =>
   match rowOf σ id r with
   |some row=>ml (ty P e) row c λx=>K g x
   |none=>False
  |_=>False
 |none=>False
def aJ(P:Program)(o:Oper)(σ:St)(K:St->Prop):Prop :=
 match o.op with
 |.call { callee:=.value f,args,.. } =>
  match ev σ f with
  |.fn g bn=>rX P g (args.toList.map (ev σ)++bn) o.dst K σ
  |_=>False
 |.call { callee:=.invoke r m,args,.. } =>
  match ev σ r with
  |.iv t v=>oW P σ v (λg x=>rX P g (x::args.toList.map (ev σ)) o.dst K σ) (FC P t m)
  |_=>False
 |_=>b9 P o σ K
def oe(P:Program)(o:Oper)(K:St->Prop)(b want:Bool)(σ:St):Prop:=(b=want->aJ P o σ K)/\(b≠want->K (σ.put o.dst (.lit (.tuple #[]))))
def opsL(P:Program)(ops:Array Oper):List Oper->(St->Prop)->St->Prop
 |[],K,σ=>K σ
 |o::r,K,σ =>
  match o.guard with
  |none=>aJ P o σ (opsL P ops r K)
  |some (j,want) =>
   match (ops[j]?).bind (·.dst) with
   |none=>False
   |some d =>
    match σ.env d with
    |.lit (.bool b)=>oe P o (opsL P ops r K) b want σ
    |.lit (.tuple vs)=>vs = #[]/\opsL P ops r K (σ.put o.dst (.lit (.tuple #[])))
    |_=>False
def tW(a:Act)(d:Option Tmp)(v:Value):(a.put d v).tmps.size=a.tmps.size:=by cases d<;>simp[Act.put]
def put_defers(a:Act)(d:Option Tmp)(v:Value):(a.put d v).defers=a.defers:=by cases d<;>rfl
def aee(xt:TypeId)(a:Addr)(x y:String):Builtin.ssaWrapNilChk_ #[xt] xt #[.pointer (some a),strVal x,strVal y]=pure (.pointer (some a)):=rfl
def Q8{w:World}{t:TypeId}{i:TypeInfo}(h:P.info? t=some i):(typeInfo t).run P w=.ok i w:=by
 simp[typeInfo,h]
def ext1(x:Value)(A:Array Value):(#[x]++A).extract 1 (#[x]++A).size=A:=by
 apply Array.ext';simp only[Array.toList_extract,List.extract,AQ,Array.size_append];simp[List.take_of_length_le]
def aef{σ:St}{γ:Cx}(hs:bk σ γ){t:TypeId}{m:String}{v:AV}{cv:Value}(hv:aw σ.aa γ.w γ.Z γ.blk v cv){K:FuncId->AV->Prop}(h:oW P σ v K (FC P t m)):
  ∃ g x cx,(Go.method (P.types.size+Made.depth) t cv m).run P γ.w=.ok (g,cx) γ.w/\aw σ.aa γ.w γ.Z γ.blk x cx/\K g x:=by
 obtain⟨fu,hfu⟩:∃fu,P.types.size+Made.depth=fu+1:=Nat.exists_eq_succ_of_ne_zero (by unfold Made.depth;omega);rw[hfu];unfold Go.method;unfold FC at h;cases hi:P.info? t with
 |none=>simp[hi,oW]at h
 |some i =>
  simp only[hi]at h;cases hf:i.methods.find? (·.name==m) with
  |none=>simp[hf,oW]at h
  |some r =>
   simp only[hf]at h;split at h
   ·rename_i g pr e hp hr hu;have vr:r.path = #[]:=Array.isEmpty_iff.1 hp;cases pr with
    |true =>
     simp only[if_pos,oW]at h;refine⟨g,v,cv,?_,hv,h⟩;simp[Q8 hi,hf,vr,follow,hr,receiverAt,run_underlying hu,Place.get]
    |false =>
     simp only[if_neg,Bool.false_eq_true,not_false_eq_true,oW]at h;obtain⟨hk,h⟩:=h;cases v with
     |ptr id rr c =>
      simp only at h;cases bR:rowOf σ id rr with
      |none=>simp[bR]at h
      |some row =>
       simp only[bR]at h;obtain⟨x,cx,h1,h2,h3⟩:=J8 hs hk hv bR h;refine⟨g,x,cx,?_,h2,h3⟩;obtain⟨b,base,cap,cur,tt,o,rfl,_⟩:=F1 hs hv bR;simp only[Instr.loadAt,Instr.sureAddr,Sem.run_bind,Sem.run_pure,Result.andThen_ok]at h1;simp[Q8 hi,hf,vr,follow,hr,receiverAt,run_underlying hu,Place.get,aee,asAddr,h1]
     |_=>exact h.elim
   ·exact h.elim
def wJ{N:Nat}{os:List Ob}{γ0:Cx}{o:Oper}{σ:St}{K:St->Prop}(h:aJ P o σ K){a:Act}{w:World}(aA:gf N os γ0 σ a w)(hd:∀ d,o.dst=some d->d<N){Q:Exit->Act->World->Prop}{next:Act->World->Prop}(hn:∀ σ' a' w',K σ'->gf N os γ0 σ' a' w'->next a' w'):o.wp P a w next Q:=by
 obtain⟨gP,aO,γ,rfl,ha,hs,hf⟩:=aA;have ud:∀ d,o.dst=some d->d<a.tmps.size:=λd h=>by rw[aO];exact hd d h
 have aeh:b9 P o σ K->o.wp P a γ.w next Q:=by
  intro h;obtain⟨n,x,w',σ',aB,hr,rh,hK,iK,eV,qh,jP⟩:=aei h hs ha ud;unfold Oper.wp;rw[hr];have cW:gf N os γ0 σ' (a.put o.dst x) w':=⟨by rw[put_defers];exact gP,by rw[tW];exact aO,aB,qh,jP,iK,hf.trans eV⟩;rcases rh with rfl|⟨rfl,rfl⟩
  ·exact hn _ _ _ hK cW
  ·exact hn _ _ _ hK cW
 unfold aJ at h;split at h
 ·rename_i f args cm cO;split at h
  ·rename_i g bn he;have cX:=sF hs ha f;rw[he]at cX;obtain⟨bg,aR,jD,vt⟩:=cX.Q9;have nt:∀ (j:Nat) d,(args.toList.map (ev σ)++bn)[j]?=some d->aw σ.aa γ.w γ.Z γ.blk d (((args.map a.eval)++bg).getD j Go.undef):=by
    intro j d hj;simp only[ep];rcases dw j args.size with ba|iy
    ·rw[er (by simpa using ba)]at hj;rw[Fo (by simpa using ba)];simp only[bY,CS,OR]at hj ⊢;cases hx:args[j]? with
     |none=>simp[hx]at hj
     |some y=>simp[hx]at hj ⊢;subst hj;exact sF hs ha y
    ·rw[gN (by simpa using iy)]at hj;rw[Array.getElem?_append_right (by simpa using iy)];simp only[eu,Array.length_toList,Array.size_map]at hj ⊢;have:=vt _ d hj;simpa [ep] using this
   unfold rX at h;have oc:=Q7 hs (argv:=(args.map a.eval)++bg) (by simp[jD]) nt h;obtain⟨ak,snap,dp,bW,res,cS,⟨⟨fn,wP,ri,x9⟩,_⟩,_⟩:=h;unfold Oper.wp;have hr:(execOp a.eval o).run P γ.w=.ok (.enter g ((args.map a.eval)++bg)) γ.w:=by
    have o8 : ¬ fn.name = "runtime.NumGoroutine" := by simpa using ri
    have og:¬ fn.body=none:=by intro e;rw[e]at x9;simp at x9
    simp[execOp,cO,resolve,aR,Deferred.ofValue,invoke,callFunc,wP,o8,og]
   rw[hr];show Calls P g _ _ _;refine oc.mono ?_;rintro e w'⟨cv,v,σ',aB,rfl,rfl,jP,iK,eV,hv,hK,sH⟩;refine hn _ _ _ hK ⟨by rw[put_defers];exact gP,by rw[tW];exact aO,{ aB with tmps:=(a.put o.dst cv).tmps },rfl,rfl,q6 iK (by rw[jP,ha]) ud hv,?_⟩;rw[p6];exact(hf.trans eV).put _
  ·exact h.elim
 ·rename_i r m args cm cO;split at h
  ·rename_i t v he;have cX:=sF hs ha r;rw[he]at cX;obtain⟨F3,aR,vt⟩:=cX.Rb;obtain⟨g,x,cx,hm,hx,h⟩:=aef hs vt h;have nt:∀ (j:Nat) d,(x::args.toList.map (ev σ))[j]?=some d->aw σ.aa γ.w γ.Z γ.blk d ((#[cx]++args.map a.eval).getD j Go.undef):=by
    intro j d hj;simp only[ep];cases j with
    |zero =>
     simp only[uV,cy.injEq]at hj;subst hj;rw[Fo Fl];simpa using hx
    |succ j =>
     simp only[rU,bY,CS]at hj;rw[Array.getElem?_append_right Fl];simp only[List.size_toArray,cV,List.length_nil,Nat.zero_add,Nat.add_sub_cancel,OR];cases hy:args[j]? with
     |none=>simp[hy]at hj
     |some y=>simp[hy]at hj ⊢;subst hj;exact sF hs ha y
   unfold rX at h;have oc:=Q7 hs (argv:=#[cx]++args.map a.eval) Jo nt h;obtain⟨ak,snap,dp,bW,res,cS,⟨⟨fn,wP,ri,x9⟩,_⟩,_⟩:=h;unfold Oper.wp;have hr:(execOp a.eval o).run P γ.w=.ok (.enter g (#[cx]++args.map a.eval)) γ.w:=by
    have o8 : ¬ fn.name = "runtime.NumGoroutine" := by simpa using ri
    have og:¬ fn.body=none:=by intro e;rw[e]at x9;simp at x9
    have e0:(#[Value.iface t F3]++args.map a.eval)[0]?=some (.iface t F3):=by rw[Fo Fl];simp
    have e1:=ext1 (.iface t F3) (args.map a.eval);have e2:(callMethod (.iface t F3) m (args.map a.eval)).run P γ.w=.ok (.enter g (#[cx]++args.map a.eval)) γ.w:=by
     unfold callMethod;simp only[Sem.run_bind,run_program,Result.andThen_ok,hm];simp[callFunc,wP,o8,og]
    simp only[execOp,cO,resolve,aR,pure_bind,invoke,e0,e1];exact e2
   rw[hr];show Calls P g _ _ _;refine oc.mono ?_;rintro e w'⟨cv,v,σ',aB,rfl,rfl,jP,iK,eV,hv,hK,sH⟩;refine hn _ _ _ hK ⟨by rw[put_defers];exact gP,by rw[tW];exact aO,{ aB with tmps:=(a.put o.dst cv).tmps },rfl,rfl,q6 iK (by rw[jP,ha]) ud hv,?_⟩;rw[p6];exact(hf.trans eV).put _
  ·exact h.elim
 ·exact aeh h
def Df{N:Nat}{os:List Ob}{γ0:Cx}{ops:Array Oper}(hd:∀ o∈ops.toList,∀ d,o.dst=some d->d<N){K:St->Prop}{Q:Exit->Act->World->Prop}(hQ:∀ σ' a' w',K σ'->gf N os γ0 σ' a' w'->Q .normal a' w'):∀ (l:List Oper) (i:Nat) (σ:St) (a:Act) (w:World),ops.toList.drop i=l->opsL P ops l K σ->gf N os γ0 σ a w ->
   wpOps P ops Q (List.range' i l.length) a w
 |[],i,σ,a,w,_,h,aA=>by simpa [wpOps] using hQ _ _ _ h aA
 |o::r,i,σ,a,w,hl,h,aA=>by
  have hi:ops[i]?=some o:=by
   have:(ops.toList.drop i)[0]?=some o:=by rw[hl];rfl
   simpa using this
  have hr:ops.toList.drop (i+1)=r:=by
   have:=congrArg List.tail hl;simpa [List.tail_drop] using this
  have cD:o∈ops.toList:=ik (by simpa using hi);rw[cV,List.range'_succ,wpOps_cons];unfold wpOp;simp only[hi];unfold opsL at h;cases hg:o.guard with
  |none =>
   simp only[hg]at h;have hw:Region.wanted o (yielded ops a.tmps)=true:=by simp[Region.wanted,hg]
   rw[if_pos hw];left;exact wJ h aA (hd o cD) (λσ' a' w' hK cW=>Df hd hQ r (i+1) σ' a' w' hr hK cW)
  |some jw =>
   obtain⟨j,want⟩:=jw;simp only[hg]at h;cases dT:(ops[j]?).bind (·.dst) with
   |none=>simp[dT]at h
   |some d =>
    simp only[dT]at h;split at h
    ·rename_i b he;obtain⟨gP,aO,γ,rfl,ha,hs,hf⟩:=aA;have jm:=hs.ar d;rw[he,ha]at jm;have hv:=jm.cz;have hy:yielded ops a.tmps j=some b:=by
      unfold yielded;rw[dT];have:a.tmps[d]?=some (.bool b):=by
       rw[ep]at hv;cases hx:a.tmps[d]? with
       |none=>rw[hx]at hv;simp[Go.undef]at hv
       |some y=>rw[hx]at hv;simp at hv;rw[hv]
      simp[this]
     by_cases gr:b=want
     ·have hw:Region.wanted o (yielded ops a.tmps)=true:=by simp[Region.wanted,hg,hy,gr]
      rw[if_pos hw];left;exact wJ (h.1 gr) ⟨gP,aO,γ,rfl,ha,hs,hf⟩ (hd o cD) (λσ' a' w' hK cW=>Df hd hQ r (i+1) σ' a' w' hr hK cW)
     ·have hw:Region.wanted o (yielded ops a.tmps)=false:=by simp[Region.wanted,hg,hy,gr]
      rw[if_neg (by rw[hw];simp)];refine Df hd hQ r (i+1) _ _ _ hr (h.2 gr) ⟨by rw[put_defers];exact gP,by rw[tW];exact aO,{ γ with tmps:=(a.put o.dst Go.undef).tmps },rfl,rfl,q6 hs ha (λd h=>by rw[aO];exact hd o cD d h) (.lit _),?_⟩;rw[p6];exact hf.put _
    ·rename_i vs he;obtain⟨gP,aO,γ,rfl,ha,hs,hf⟩:=aA;have jm:=hs.ar d;rw[he,ha]at jm;have hv:=jm.cz;have hy:yielded ops a.tmps j=none:=by
      unfold yielded;rw[dT];rw[ep]at hv;cases hx:a.tmps[d]? with
      |none=>simp[hx]
      |some y=>rw[hx]at hv;simp at hv;subst hv;simp[hx]
     have hw:Region.wanted o (yielded ops a.tmps)=false:=by simp[Region.wanted,hg,hy]
     rw[if_neg (by rw[hw];simp)];refine Df hd hQ r (i+1) _ _ _ hr h.2 ⟨by rw[put_defers];exact gP,by rw[tW];exact aO,{ γ with tmps:=(a.put o.dst Go.undef).tmps },rfl,rfl,q6 hs ha (λd h=>by rw[aO];exact hd o cD d h) (.lit _),?_⟩;rw[p6];exact hf.put _
    ·exact h.elim
end Go.Am
namespace Go.Am
variable {P:Program} {N n0:Nat} {Q:Exit->St->Prop} {σ:St}
def Re{c:Code}{Q':Exit->St->Prop}(h:W P N n0 c Q σ)(hq:∀ e s,Q e s->Q' e s):W P N n0 c Q' σ :=
 λos γ0 a w hn aA=>wp_mono (h os γ0 a w hn aA) (λ_ _ _ ⟨σ',h1,h2⟩=>⟨σ',hq _ _ h1,h2⟩)
def Rf(h:Q .normal σ):W P N n0 .skip Q σ:=λ_ _ _ _ _ aA=>wp_skip ⟨σ,h,aA⟩
def aej{l:Nat}(h:Q .normal σ):W P N n0 (.label l) Q σ:=λ_ _ _ _ _ aA=>wp_label ⟨σ,h,aA⟩
def aek{id:Nat}(h:Q (.exit id) σ):W P N n0 (.exit id) Q σ:=λ_ _ _ _ _ aA=>wp_exit ⟨σ,h,aA⟩
def ael(h:Q .ret σ):W P N n0 .ret Q σ:=λ_ _ _ _ _ aA=>wp_ret ⟨σ,h,aA⟩
def aem(P:Program)(N n0:Nat)(y:Code)(Q:Exit->St->Prop):Exit->St->Prop
 |.normal,s=>W P N n0 y Q s
 |e,s=>Q e s
def FM{x y:Code}(h:W P N n0 x (aem P N n0 y Q) σ):W P N n0 (.seq x y) Q σ:=by
 intro os γ0 a w hn aA;refine wp_seq (wp_mono (h os γ0 a w hn aA) ?_);rintro e a' w'⟨σ',h1,h2⟩;cases e with
 |normal=>exact h1 os γ0 a' w' hn h2
 |exit id=>exact⟨σ',h1,h2⟩
 |goto l=>exact⟨σ',h1,h2⟩
 |ret=>exact⟨σ',h1,h2⟩
 |panic c=>exact⟨σ',h1,h2⟩
 |outgrown=>exact⟨σ',h1,h2⟩
def Rg{c:Operand}{x y:Code}{t:Bool}(hc:ev σ c=.lit (.bool t))(ht:t=true->W P N n0 x Q σ)(hf:t=false->W P N n0 y Q σ):W P N n0 (.cond c x y) Q σ:=by
 intro os γ0 a w hn aA;have aR:a.eval c=.bool t:=by
  obtain⟨_,_,γ,rfl,ha,hs,_⟩:=aA;have:=sF hs ha c;rw[hc]at this;exact this.cz
 exact wp_cond_split aR (λh=>ht h os γ0 a w hn aA) (λh=>hf h os γ0 a w hn aA)
def FO(id:Nat)(Q:Exit->St->Prop):Exit->St->Prop
 |.exit nZ,s=>if nZ=id then Q .normal s else Q (.exit nZ) s
 |e,s=>Q e s
def adZ{id:Nat}{c:Code}(h:W P N n0 c (FO id Q) σ):W P N n0 (.block id c) Q σ:=by
 intro os γ0 a w hn aA;refine wp_block (wp_mono (h os γ0 a w hn aA) ?_);rintro e a' w'⟨σ',h1,h2⟩;cases e with
 |exit nZ =>
  simp only[FO]at h1;simp only[Exit.inBlock];split
  ·rename_i he;rw[if_pos he]at h1;exact⟨σ',h1,h2⟩
  ·rename_i he;rw[if_neg he]at h1;exact⟨σ',h1,h2⟩
 |normal=>exact⟨σ',h1,h2⟩
 |goto l=>exact⟨σ',h1,h2⟩
 |ret=>exact⟨σ',h1,h2⟩
 |panic c=>exact⟨σ',h1,h2⟩
 |outgrown=>exact⟨σ',h1,h2⟩
def fJ(N:Nat)(ops:Array Oper):Bool:=ops.toList.all λo=>match o.dst with|some d=>decide (d<N)|none=>true
def sr{ops:Array Oper}(h:fJ N ops=true):∀ o∈ops.toList,∀ d,o.dst=some d->d<N:=by
 intro o ho d hd;unfold fJ at h;rw[e8]at h;have:=h o ho;simp[hd]at this;exact this
def QS{id:Nat}{ops:Array Oper}(hd:fJ N ops=true)(h:opsL P ops ops.toList (Q .normal) σ):W P N n0 (.region id ops false) Q σ:=by
 intro os γ0 a w _ aA;refine wp_region ?_;have:=Df (P:=P) (N:=N) (os:=os) (γ0:=γ0) (ops:=ops) (sr hd) (K:=Q .normal) (Q:=λe a' w'=>∃ σ',Q e σ'/\gf N os γ0 σ' a' w') (λσ' a' w' hK cW=>⟨σ',hK,cW⟩)
  ops.toList 0 σ a w rfl h aA
 rw[List.range_eq_range'];simpa using this
def gf.drawn{os:List Ob}{γ0:Cx}{a:Act}{w:World}(h:gf N os γ0 σ a w):gf N os γ0 σ a { w with drawn:=w.drawn+1 }:=by
 obtain⟨h1,h2,γ,rfl,h3,h4,h5⟩:=h;exact⟨h1,h2,{ γ with w:={ γ.w with drawn:=γ.w.drawn+1 } },rfl,h3,h4.J9 rfl,h5.J9 rfl rfl rfl rfl⟩
def aH(n0:Nat)(σ σ':St):Prop:=∀ (os:List Ob) (γ0 γ:Cx),os.length=n0->bk σ γ->Fr os γ0 σ.aa γ->∃ aB,aB.w=γ.w/\aB.tmps=γ.tmps/\bk σ' aB/\Fr os γ0 σ'.aa aB
def df{c:Code}{σ':St}(h:aH n0 σ σ')(hw:W P N n0 c Q σ'):W P N n0 c Q σ:=by
 intro os γ0 a w hn aA;obtain⟨h1,h2,γ,rfl,h3,h4,h5⟩:=aA;obtain⟨aB,e1,e2,e3,e4⟩:=h os γ0 γ hn h4 h5;exact hw os γ0 a γ.w hn ⟨h1,h2,aB,e1,e2.trans h3,e3,e4⟩
def aH.forget{e:Nat->AV}(h:∀ k,e k=.undef\/e k=σ.env k):aH n0 σ ⟨e,σ.aa⟩:=by
 intro os γ0 γ _ hs hf;refine⟨γ,rfl,rfl,⟨λk=>?_,hs.dz,hs.inj,hs.nz,hs.gk,hs.gl⟩,hf⟩;rcases h k with h|h
 ·show aw _ _ _ _ (e k) _;rw[h];exact .undef _
 ·show aw _ _ _ _ (e k) _;rw[h];exact hs.ar k
def aH.select(ak:List Nat)(snap:Bool)(bW:List Ob)(e:Nat->AV)(bT:ak.Nodup)(bz:bW.length=ak.length)(uc:∀ (j:Nat) o,bW[j]?=some o->o=.gone\/σ.aa[ak.getD j 0]?=some (bM (bq σ.aa.length ak) o))(ln:∀ i∈ak,i<σ.aa.length)(hn:n0<=ak.length)(bV:∀ i,i<n0->ak.getD i 0=i)(he:∀ k,e k=.undef\/cC σ (λid=>∃ j,j<ak.length/\ak.getD j 0=id/\bW[j]?≠some .gone) (bq σ.aa.length ak) snap (e k) (σ.env k)):aH n0 σ ⟨e,bW⟩:=by
 intro os γ0 γ Bj hs hf;obtain⟨aB,h1,h2,h3,h4⟩:=hs.select ak snap bW bT bz uc ln e γ.tmps (λk=>(he k).imp id λh=>⟨_,h,hs.ar k⟩);exact⟨aB,h1,h2,h3,hf.select CZ bz (λi hi=>bV i CZ) h1 h4⟩
def aH.trans{σ1 σ2:St}(h:aH n0 σ σ1)(k:aH n0 σ1 σ2):aH n0 σ σ2:=by
 intro os γ0 γ Bj hs hf;obtain⟨γ1,a1,a2,a3,a4⟩:=h os γ0 γ Bj hs hf;obtain⟨J',b1,b2,b3,b4⟩:=k os γ0 γ1 Bj a3 a4;exact⟨J',b1.trans a1,b2.trans a2,b3,b4⟩
def aH.nil(d sz:Nat)(h:σ.env d=.lit (.slice none 0 0))(h0:0<sz):aH n0 σ ⟨jn σ.env d (.ref σ.aa.length sz 0 0),σ.aa++[.arr sz []]⟩:=by
 intro os γ0 γ _ hs hf;have hp:=hs.zs h0;refine⟨{ γ with blk:=cT γ.blk σ.aa.length none },rfl,rfl,⟨λk=>?_,hp.dz,hp.inj,hp.nz,hp.gk,hp.gl⟩,hf.trans (Fr.zs _ _ _)⟩;simp only[jn];by_cases hk:k=d
 ·subst hk;rw[if_pos rfl];have:=hs.ar k;rw[h]at this;rw[this.cz];exact .lL _ _ (List.getElem?_concat_length ..) (by simp[cT])
 ·rw[if_neg hk];exact hp.ar k
def gG(σ:St)(P:Program):List ResultVar->(List AV->Prop)->Prop
 |[],K=>K []
 |.tmp t::r,K=>gG σ P r λvs=>K (σ.env t::vs)
 |.cell a t::r,K =>
  (ty P t).kind≠99 /\
  match σ.env a with
  |.ptr id rr c =>
   match rowOf σ id rr with
   |some row=>ml (ty P t) row c λv=>gG σ P r λvs=>K (v::vs)
   |none=>False
  |_=>False
def gv:List AV->AV
 |[v]=>v
 |vs=>.bx vs
def F4{γ:Cx}(hs:bk σ γ):∀ (rs:List ResultVar) (K:List AV->Prop),gG σ P rs K ->
  ∃ vs bg,K vs/\(rs.mapM λ(r:ResultVar)=>match r with|.tmp t=>(pure (γ.tmps.getD t Go.undef):Sem Value)|.cell a t=>do loadVar t (← asAddr (γ.tmps.getD a Go.undef))).run P γ.w=.ok bg γ.w /\
   bg.length=vs.length/\vs.length=rs.length/\∀ (j:Nat) v,vs[j]?=some v->aw σ.aa γ.w γ.Z γ.blk v (bg.getD j Go.undef)
 |[],K,h=>⟨[],[],h,Fl,rfl,rfl,Fl⟩
 |.tmp t::r,K,h=>by
  obtain⟨vs,bg,h1,h2,h3,h4,h5⟩:=F4 hs r _ h;refine⟨_,γ.tmps.getD t Go.undef::bg,h1,?_,by simp[h3],by simp[h4],?_⟩
  ·simp only[List.mapM_cons,Sem.run_bind,Sem.run_pure,Result.andThen_ok,h2]
  ·intro j v hj;cases j with
   |zero=>simp at hj;subst hj;simpa using hs.ar t
   |succ j=>simpa using h5 j v (by simpa using hj)
 |.cell a t::r,K,h=>by
  obtain⟨hk,h⟩:=h;split at h
  ·rename_i id rr c he;have hv:=hs.ar a;rw[he]at hv;split at h
   ·rename_i row bR;obtain⟨v,cv,l1,l2,l3⟩:=J8 hs hk hv bR h;obtain⟨vs,bg,h1,h2,h3,h4,h5⟩:=F4 hs r _ l3;obtain⟨b,base,cap,cur,tt,o,hp,_⟩:=F1 hs hv bR;have eG:(do loadVar t (← asAddr (γ.tmps.getD a Go.undef)):Sem Value).run P γ.w=.ok cv γ.w:=by
     rw[hp]at l1 ⊢;simp only[Instr.loadAt,Instr.sureAddr,Sem.run_bind,Sem.run_pure,Result.andThen_ok]at l1;simp only[asAddr,Sem.run_bind,Sem.run_pure,Result.andThen_ok];exact l1
    refine⟨_,cv::bg,h1,?_,by simp[h3],by simp[h4],?_⟩
    ·simp only[List.mapM_cons];rw[Sem.run_bind,eG];simp only[Result.andThen_ok,Sem.run_bind,h2,Sem.run_pure]
    ·intro j x hj;cases j with
     |zero=>simp at hj;subst hj;simpa using l2
     |succ j=>simpa using h5 j x (by simpa using hj)
   ·exact h.elim
  ·exact h.elim
def nR(n0:Nat)(σ:St)(v res:AV)(bb:List Ob):Prop :=
 ∃ (ak:List Nat) (snap:Bool),ak.Nodup/\bb.length=ak.length/\(∀ (j:Nat) o,bb[j]?=some o->o=.gone\/σ.aa[ak.getD j 0]?=some (bM (bq σ.aa.length ak) o))/\(∀ i∈ak,i<σ.aa.length) /\
  n0<=ak.length/\(∀ i,i<n0->ak.getD i 0=i)/\cC σ (λid=>∃ j,j<ak.length/\ak.getD j 0=id/\bb[j]?≠some .gone) (bq σ.aa.length ak) snap res v
def Bk(P:Program)(n0:Nat)(rs:List ResultVar)(res:AV)(bb:List Ob):Exit->St->Prop
 |.normal,s=>gG s P rs λvs=>nR n0 s (gv vs) res bb
 |.ret,s=>gG s P rs λvs=>nR n0 s (gv vs) res bb
 |_,_=>False
def Holds.Ka {f : FuncId} {fn : Func} {c : Code} {args : List AV} {aa : List Ob} {res : AV} {bb : List Ob} (hf : P.funcs[f]? = some fn) (hb : fn.body = some c) (ri : (fn.name == "runtime.NumGoroutine") = false)
  (hN:args.length<=fn.ntmps) (h:W P fn.ntmps aa.length c (Bk P aa.length fn.results.toList res bb) ⟨λk=>args.getD k .undef,aa⟩):Holds P f args aa res bb:=by
 refine⟨⟨fn,hf,ri,by rw[hb];rfl⟩,?_⟩;intro γ aO hs;refine calls_of_wp hf hb ?_
 let tm:=γ.tmps++Array.replicate (fn.ntmps-γ.tmps.size) Go.undef
 have aA:gf fn.ntmps aa γ ⟨λk=>args.getD k .undef,aa⟩ { tmps:=tm,defers:=[] } γ.w:=by
  refine⟨rfl,by simp[tm];omega,{ γ with tmps:=tm },rfl,rfl,⟨λk=>?_,hs.dz,hs.inj,hs.nz,hs.gk,hs.gl⟩,(Fr.refl _ _).put _⟩;rcases dw k args.length with hk|hk
  ·have:=hs.ar k;have e:tm.getD k Go.undef=γ.tmps.getD k Go.undef:=by
    simp only[tm,ep];rw[Fo CZ]
   show aw _ _ _ _ _ (tm.getD k Go.undef);rw[e];exact this
  ·have e:args.getD k AV.undef=.undef:=by simp[hk]
   show aw _ _ _ _ (args.getD k .undef) _;rw[e];exact .undef _
 refine wp_mono (h aa γ _ γ.w rfl aA) ?_;rintro e a' w'⟨σ',h1,gP,_,aB,rfl,ha,iK,eV⟩;have fin:∀ (K:List AV->Prop),gG σ' P fn.results.toList K->(∀ vs,K vs->nR aa.length σ' (gv vs) res bb) ->
   a'.defers=[]/\∃ v,(results fn a'.tmps).run P aB.w=.ok v aB.w/\∃ cv jq,Ending.returned v=.returned cv/\jq.w=aB.w/\jq.tmps = #[cv]/\bk ⟨λk=>[res].getD k .undef,bb⟩ jq/\Fr aa γ bb jq:=by
  intro K hK Kb;obtain⟨vs,bg,k1,k2,k3,k4,k5⟩:=F4 iK _ _ hK;obtain⟨ak,snap,r1,r2,r3,r4,r5,r6,r7⟩:=Kb vs k1;refine⟨gP,?_⟩;have eG :∃v,(results fn a'.tmps).run P aB.w=.ok v aB.w/\aw σ'.aa aB.w aB.Z aB.blk (gv vs) v:=by
   have hm:(fn.results.mapM λ(r:ResultVar)=>match r with|.tmp t=>(pure (a'.tmps.getD t Go.undef):Sem Value)|.cell a t=>do loadVar t (← asAddr (a'.tmps.getD a Go.undef))).run P aB.w=.ok bg.toArray aB.w:=by
    rw[Array.mapM_eq_mapM_toList,Sem.run_map,<- ha,k2];rfl
   have hr:(results fn a'.tmps).run P aB.w=.ok (if h:bg.toArray.size=1 then bg.toArray[0] else .tuple bg.toArray) aB.w:=by
    unfold results;rw[Sem.run_bind];exact congrArg (λr=>Result.andThen r λ(a:Array Value) w'=>(pure (if h:a.size=1 then a[0] else Value.tuple a):Sem Value).run P w') hm
   rw[hr]
   match vs,bg,k3,k5 with
   |[],[],_,k5=>exact⟨_,rfl,.bx _ _ rfl (λj x hj=>by simp at hj)⟩
   |[v],[cv],_,k5=>exact⟨cv,Fl,by simpa [gv] using k5 0 v rfl⟩
   |v::v'::vs,cv::pd::bg,k3,k5 =>
    refine⟨.tuple (cv::pd::bg).toArray,Fl,.bx _ _ (by simpa using k3) (λj x hj=>?_)⟩;have:=k5 j x hj;simpa [az,ep] using this
  obtain⟨v,sI,Dg⟩:=eG;obtain⟨jq,e1,e2,e3,e4⟩:=iK.select ak snap bb r1 r2 r3 r4 (λk=>[res].getD k .undef) #[v] (λk=>by
   cases k with
   |zero=>exact .inr ⟨_,r7,by simpa using Dg⟩
   |succ k=>left;simp)
  exact⟨v,sI,v,jq,rfl,e1,e2,e3,eV.select r5 r2 r6 e1 e4⟩
 cases e with
 |normal=>exact fin _ h1 (λ_ h=>h)
 |ret=>exact fin _ h1 (λ_ h=>h)
 |exit id=>exact h1.elim
 |goto l=>exact h1.elim
 |panic c=>exact h1.elim
 |outgrown=>exact h1.elim
theorem Holds.aQ {f:FuncId} {fn:Func} {c:Code} {args:List AV} {aa:List Ob} {res:AV} {bb:List Ob} (N k:Nat) (rs:List ResultVar) (hf:P.funcs[f]?=some fn) (h:W P N k c (Bk P k rs res bb) ⟨fun k=>args.getD k .undef,aa⟩) (hb:fn.body=some c:=by rfl) (ri:(fn.name=="runtime.NumGoroutine")=false:=by rfl) (hN:fn.ntmps=N:=by rfl) (pf:fn.results.toList=rs:=by rfl) (hk:aa.length=k:=by rfl) (hl:args.length<=N:=by simp):Holds P f args aa res bb:=by
 subst hN;subst pf;subst hk;exact Holds.Ka hf hb ri hl h
def W_k{x y:Code}(h:∀ Q':Exit->St->Prop,(∀ s,W P N n0 y Q s->Q' .normal s)->(∀ e s,e≠.normal->Q e s->Q' e s)->W P N n0 x Q' σ):W P N n0 (.seq x y) Q σ :=
 FM (h _ (λ_ h=>h) (λe s he hq=>by cases e<;>first|exact absurd rfl he|exact hq))
def Kd{id:Nat}{ops:Array Oper}{y:Code}(hd:fJ N ops=true)(h:∀ K:St->Prop,(∀ s,W P N n0 y Q s->K s)->opsL P ops ops.toList K σ):W P N n0 (.seq (.region id ops false) y) Q σ :=
 FM (QS hd (h _ (λ_ h=>h)))
def Qj{ops:Array Oper}{K:St->Prop}:opsL P ops [] K σ=K σ:=rfl
def Qk{ops:Array Oper}{o:Oper}{r:List Oper}{K:St->Prop}:opsL P ops (o::r) K σ =
  match o.guard with
  |none=>aJ P o σ (opsL P ops r K)
  |some (j,want) =>
   match (ops[j]?).bind (·.dst) with
   |none=>False
   |some d =>
    match σ.env d with
    |.lit (.bool b)=>oe P o (opsL P ops r K) b want σ
    |.lit (.tuple vs)=>vs = #[]/\opsL P ops r K (σ.put o.dst (.lit (.tuple #[])))
    |_=>False:=rfl
def Qn{o:Oper}{K:St->Prop}:oe P o K true true σ=aJ P o σ K:=by simp[oe]
def Qq{o:Oper}{K:St->Prop}:oe P o K false false σ=aJ P o σ K:=by simp[oe]
def Qo{o:Oper}{K:St->Prop}:oe P o K true false σ=K (σ.put o.dst (.lit (.tuple #[]))):=by simp[oe]
def Qp{o:Oper}{K:St->Prop}:oe P o K false true σ=K (σ.put o.dst (.lit (.tuple #[]))):=by simp[oe]
def aeo{o:Oper}{K:St->Prop}{b want:Bool}(h1:b=true->oe P o K true want σ)(h2:b=false->oe P o K false want σ):oe P o K b want σ:=by
 cases b
 ·exact h2 rfl
 ·exact h1 rfl
def clr(ds:List Nat)(e:Nat->AV):Nat->AV:=λk=>if ds.contains k then .undef else e k
def FF{ds:List Nat}{e:Nat->AV}{k:Nat}:clr ds e k=if ds.contains k then .undef else e k:=rfl
def aeq(e:Nat->AV)(d:Nat)(v:AV):jn e d v d=v:=by simp[jn]
mutual
def kq:AV->Bool
 |.ref ..=>false
 |.ptr ..=>false
 |.agg cs=>lJ cs
 |.bx cs=>lJ cs
 |.fn _ cs=>lJ cs
 |.iv _ v=>kq v
 |.db _=>false
 |_=>true
def lJ:List AV->Bool
 |[]=>true
 |v::vs=>kq v&&lJ vs
end
mutual
def zi(ρ:Nat->Nat):∀ (v:AV),kq v=true->bh ρ v=v
 |.undef,_=>rfl
 |.lit _,_=>rfl
 |.tree ..,_=>rfl
 |.cj _,_=>rfl
 |.ref ..,h=>by simp[kq]at h
 |.ptr ..,h=>by simp[kq]at h
 |.agg cs,h=>by simp only[kq]at h;simp only[bh];rw[Be ρ cs h]
 |.bx cs,h=>by simp only[kq]at h;simp only[bh];rw[Be ρ cs h]
 |.fn f cs,h=>by simp only[kq]at h;simp only[bh];rw[Be ρ cs h]
 |.iv t v,h=>by simp only[kq]at h;simp only[bh];rw[zi ρ v h]
 |.db _,h=>by simp[kq]at h
def Be(ρ:Nat->Nat):∀ (l:List AV),lJ l=true->n9 ρ l=l
 |[],_=>rfl
 |v::vs,h=>by
  simp only[lJ,a7]at h;simp only[n9];rw[zi ρ v h.1,Be ρ vs h.2]
end
def aer{l:List AV}(h:lJ l=true){j:Nat}{x:AV}(hx:l[j]?=some x):kq x=true:=by
 induction l generalizing j with
 |nil=>simp at hx
 |cons v l ih =>
  simp only[lJ,a7]at h;cases j with
  |zero=>simp at hx;subst hx;exact h.1
  |succ j=>exact ih h.2 (by simpa using hx)
def b7{f:FuncId}{args:List AV}{dst:Option Tmp}{K:St->Prop}{res:AV}(h:Holds P f args [] res [])(ha:lJ args=true)(hr:kq res=true)(hK:K (σ.put dst res)):rX P f args dst K σ:=by
 refine⟨[],false,args,[],res,[],h,⟨Jg,rfl,Fl,rfl,?_,Fl⟩,?_⟩
 ·intro j c d hc hd;rw[hc]at hd;simp at hd;subst hd;have:=cC.same (σ:=σ) (kp:=(·∈([]:List Nat))) (ρ:=bq σ.aa.length []) (snap:=false) c;rw[zi _ c (aer ha hc)]at this;exact this
 ·rw[zi _ _ hr];simpa [fc] using hK
def JS{v:AV}(hr:kq v=true):nR 0 σ v v []:=by
 refine⟨[],false,Jg,rfl,Fl,Fl,aU _,Fl,?_⟩;have:=cC.same (σ:=σ) (kp:=λid=>∃ j,j<([]:List Nat).length/\([]:List Nat).getD j 0=id/\([]:List Ob)[j]?≠some .gone) (ρ:=bq σ.aa.length []) (snap:=false) v;rw[zi _ _ hr]at this;exact this
end Go.Am
namespace Go.Am
variable {P:Program}
def cls:Op->Nat
 |.move _|.assign _|.pick ..|.convert ..|.binOp ..|.unOp ..|.makeFunc ..|.makeInterface ..|.typeAssert ..|.field ..|.extract ..|.build ..|.index ..=>0
 |.call { callee:=.builtin .min,.. }|.call { callee:=.builtin .max,.. }=>0
 |.nilCheck _|.fieldAddr ..|.indexAddr ..|.slice ..=>1
 |.call { callee:=.builtin .len,.. }=>1
 |.load ..|.lookup ..=>2
 |.alloc _|.box ..|.makeSlice ..|.buildSlice ..|.makeMap ..=>3
 |.store ..=>4
 |_=>5
def tZ:Ob->Ob->Prop
 |.var _,.var _=>True
 |.arr s _,.arr s' _=>s=s'
 |.mp a L,.mp b M=>a=b/\L=M
 |.gone,.gone=>True
 |_,_=>False
def xX(o:Ob):tZ o o:=by cases o<;>simp[tZ]
def kr(c:Nat)(a b:List Ob):Prop :=
 if c<=2 then b=a
 else if c=3 then ∀ (id:Nat),id<a.length->b[id]?=a[id]?
 else if c=4 then b.length=a.length/\∀ (id:Nat) o o',a[id]?=some o->b[id]?=some o'->tZ o o'
 else True
def aes(c:Nat)(h:c<=2)(a:List Ob):kr c a a:=by simp[kr,h]
def F5(a:List Ob)(o:Ob):kr 3 a (a++[o]):=by
 simp only[kr];intro id h;exact er h
def aet(σ:St)(id r:Nat)(row:List AV):kr 4 σ.aa (nQ σ id r row).aa:=by
 simp only[kr];rw[if_neg Fs,if_neg Fs,if_pos trivial];have key:∀ (x y:Ob),σ.aa[id]?=some x->tZ x y->(σ.aa.set id y).length=σ.aa.length/\∀ (i:Nat) o o',σ.aa[i]?=some o->(σ.aa.set id y)[i]?=some o'->tZ o o':=by
  intro x y hx qj;refine⟨Fl,λi o o' ho cH=>?_⟩;rw[List.getElem?_set]at cH;split at cH
  ·rename_i e;subst e;split at cH
   ·simp at cH;subst cH;rw[hx]at ho;simp at ho;subst ho;exact qj
   ·simp at cH
  ·rw[ho]at cH;simp at cH;subst cH;exact xX o
 unfold nQ;split
 ·rename_i cells h;exact key _ _ h trivial
 ·rename_i sz rows h;exact key _ _ h rfl
 ·exact⟨rfl,λi o o' ho cH=>by rw[ho]at cH;simp at cH;subst cH;exact xX o⟩
def oh:AV->Option Nat
 |.ref id _ _ _=>some id
 |.ptr id _ _=>some id
 |.db id=>some id
 |_=>none
def gR(c:Nat)(a b:Option Ob):Prop :=
 if c=0 then True else if c=1 then ∀ o,a=some o->∃ o',b=some o'/\tZ o o' else ∀ o,a=some o->b=some o
def ql(c:Nat)(l:List Operand)(σ:St)(e2:Nat->AV)(ob:List Ob):Prop :=
 (∀ x∈l,ev ⟨e2,ob⟩ x=ev σ x)/\(∀ x∈l,∀ id,oh (ev σ x)=some id->gR c σ.aa[id]? ob[id]?)
def Ke(P:Program)(o:Oper)(σ:St)(K:St->Prop)(c:Nat)(l:List Operand):Prop :=
 ∃ v os,kr c σ.aa os/\K ((⟨σ.env,os⟩:St).put o.dst v)/\∀ e2 ob os2 (K2:St->Prop),ql c l σ e2 ob->(if c<=2 then os2=ob else ob=σ.aa/\os2=os)->K2 ((⟨e2,os2⟩:St).put o.dst v)->b9 P o ⟨e2,ob⟩ K2
theorem dA{o:Oper}{σ:St}{K:St->Prop}{c:Nat}{l:List Operand}{v:AV}(hW:K (σ.put o.dst v))(h:∀ e2 ob (K2:St->Prop),ql c l σ e2 ob->K2 ((⟨e2,ob⟩:St).put o.dst v)->b9 P o ⟨e2,ob⟩ K2)(hc:c<=2:=by simp[cls]):Ke P o σ K c l :=
 ⟨v,σ.aa,aes _ hc _,hW,fun e2 ob os2 K2 hx ho dD=>h e2 ob K2 hx (by rw[if_pos hc]at ho;subst ho;exact dD)⟩
def dB{o:Oper}{σ:St}{K:St->Prop}{c:Nat}{l:List Operand}{v:AV}{os:List Ob}(hc:3<=c)(he:kr c σ.aa os)(hW:K ((⟨σ.env,os⟩:St).put o.dst v))(h:∀ e2 (_:List Ob) (K2:St->Prop),ql 0 l σ e2 σ.aa->K2 ((⟨e2,os⟩:St).put o.dst v)->b9 P o ⟨e2,σ.aa⟩ K2):Ke P o σ K c l :=
 ⟨v,os,he,hW,λe2 ob os2 K2 hx ho dD=>by rw[if_neg CZ]at ho;obtain⟨rfl,rfl⟩:=ho;exact h e2 σ.aa K2 ⟨hx.1,λ_ _ _ _=>by simp[gR]⟩ dD⟩
def parts_eq{parts:Array (Nat×Operand)}{σ τ:St}(h:∀ x∈parts.toList.map (·.2),ev τ x=ev σ x):
  (parts.toList.map λp=>(p.1,ev τ p.2))=(parts.toList.map λp=>(p.1,ev σ p.2))/\(parts.toList.all λp=>(cellsOf (ev τ p.2)).all cQ)=(parts.toList.all λp=>(cellsOf (ev σ p.2)).all cQ):=by
 have hp:(parts.toList.map λp=>(p.1,ev τ p.2))=(parts.toList.map λp=>(p.1,ev σ p.2)):=tI λp hp=>by rw[h _ (CR hp)]
 exact⟨hp,by simpa [List.all_map,Function.comp_def] using congrArg (·.all λq=>(cellsOf q.2).all cQ) hp⟩
def QG{t:Ty}{cells:List AV}{c:Nat}{K:AV->Prop}(h:ml t cells c K):∃v,K v/\∀ K2:AV->Prop,K2 v->ml t cells c K2:=by
 unfold ml at h ⊢;split at h
 ·exact⟨_,h.2,λK2 hK=>by simp_all⟩
 ·split at h<;>first|exact h.elim|exact⟨_,h,λK2 hK=>by simp_all⟩
def aeu{k:IntKind}{p q:Int}{K:Value->Prop}(h:vu k p q K):∃v,K v/\∀ K2:Value->Prop,K2 v->vu k p q K2:=by
 by_cases hk:k=.u64
 ·rw[vu,if_pos hk]at h;exact⟨_,h,λK2 h2=>by rw[vu,if_pos hk];exact h2⟩
 ·rw[vu,if_neg hk]at h;exact⟨_,h.2,λK2 h2=>by rw[vu,if_neg hk];exact⟨h.1,h2⟩⟩
def aev{k:IntKind}{p:Int}{K:Value->Prop}(h:tS k p K):∃v,K v/\∀ K2:Value->Prop,K2 v->tS k p K2:=by
 by_cases hk:k=.u64
 ·rw[tS,if_pos hk]at h;exact⟨_,h,λK2 h2=>by rw[tS,if_pos hk];exact h2⟩
 ·rw[tS,if_neg hk]at h;exact⟨_,h.2,λK2 h2=>by rw[tS,if_neg hk];exact⟨h.1,h2⟩⟩
def aew{op:BinOp}{k:IntKind}{p q:Int}{K:Value->Prop}(h:gB op k p q K):∃v,K v/\∀ K2:Value->Prop,K2 v->gB op k p q K2:=by
 unfold gB at h ⊢;split at h<;>first|exact aeu h|exact⟨_,h.2,λK2 h'=>⟨h.1,h'⟩⟩|exact⟨_,h,λK2 h=>h⟩|exact h.elim
def aex{σ:St}{e:Nat->AV}{ob:List Ob}{id r:Nat}{row:List AV}(h:∀ o,σ.aa[id]?=some o->ob[id]?=some o)(hr:rowOf σ id r=some row):rowOf ⟨e,ob⟩ id r=some row:=by
 unfold rowOf at hr ⊢;cases ho:σ.aa[id]?<;>simp_all
def aey{σ:St}{e:Nat->AV}{ob:List Ob}{v:AV}{q:Nat×Nat×List (List Int×AV)}(h:∀ id,v=.db id->∀ o,σ.aa[id]?=some o->ob[id]?=some o)(hm:lI σ v=some q):lI ⟨e,ob⟩ v=some q:=by
 unfold lI at hm ⊢;split at hm
 ·rename_i id;split at hm
  ·rename_i ag L ho;have:=h id rfl _ ho;simp only[this];exact hm
  ·cases hm
 ·cases hm
def Rh{o:Oper}{σ:St}{K:St->Prop}(hW:b9 P o σ K):Ke P o σ K (cls o.op) o.op.operands.toList:=by
 obtain⟨dst,op,type,pos,after,guard⟩:=o;unfold b9 at hW;cases op
 case call c =>
  obtain⟨callee,args,argTypes⟩:=c;cases callee<;>try exact hW.elim
  rename_i b;cases b<;>try exact hW.elim
  all_goals simp only at hW
  case append =>
   (repeat' split at hW)<;>try exact hW.elim
   rename_i s x t t' bZ jP _ _ _ _ z pre σ1 sz src hk hz mS qm;have sH:σ1=⟨σ.env,σ1.aa⟩/\∀ e,lj ⟨e,σ.aa⟩ (ty P (ty P t).elem).size (ev σ s)=some (pre,⟨e,σ1.aa⟩):=by
    unfold lj at mS ⊢;(repeat' split at mS)<;>simp_all
    all_goals obtain⟨rfl,rfl⟩:=mS;simp
   refine dB (os:=σ1.aa++[.arr sz (pre++src)]) (by simp[cls]) trivial (by have:=hW.2;rw[sH.1]at this;exact this) λe2 ob K2 hx dD=>?_;have mg:nu ⟨e2,σ.aa⟩ (ev σ x)=some (sz,src):=qm;unfold b9;simp[ql,Op.operands,Call.operands,bZ]at hx;simp only[bZ,jP,hx.1.1,hx.1.2,hk,hz,sH.2,mg];exact⟨hW.1,dD⟩
  case copy =>
   (repeat' split at hW)<;>try exact hW.elim
   rename_i bZ jP _ _ id _ _ _ _ src he qm _ _ _ ho;refine dB (by simp[cls]) trivial hW.2 λe2 ob K2 hx dD=>?_;have mg:nu ⟨e2,σ.aa⟩ _=_:=qm;unfold b9;simp[ql,Op.operands,Call.operands,bZ]at hx;simp only[bZ,jP,hx.1.1,hx.1.2,he,mg,ho];exact⟨hW.1,dD⟩
  case clear =>
   (repeat' split at hW)<;>try exact hW.elim
   rename_i bZ jP _ _ id _ _ _ _ he hz _ _ _ ho;refine dB (by simp[cls]) trivial hW.2 λe2 ob K2 hx dD=>?_;unfold b9;simp[ql,Op.operands,Call.operands,bZ]at hx;simp only[bZ,jP,hx,he,hz,ho];exact⟨hW.1,dD⟩
  all_goals(repeat' split at hW)<;>first|exact hW.elim|exact hW.2.elim|refine dA hW ?_|refine dA hW.2 ?_|refine dA hW.2.2 ?_
  all_goals
   intro e2 ob K2 hx dD;unfold b9;simp[ql,Op.operands,Call.operands,oh,gR,cls, *]at hx ⊢;first|done|(simp_all;done)|(obtain⟨_,o',_,hk⟩:=hx;cases o'<;>simp_all [tZ];done)
 case load t x =>
  simp only at hW;obtain⟨hk,hW⟩:=hW;(repeat' split at hW)<;>try exact hW.elim
  all_goals
   obtain⟨v,hK,hl⟩:=QG hW;refine dA hK λe2 ob K2 hx dD=>?_;unfold b9;simp[ql,Op.operands,oh,gR,cls, *]at hx;first|simp only[hx.1,aex hx.2 ‹rowOf _ _ _=_›]|simp only[hx]
   exact⟨hk,hl _ dD⟩
 case store t x y =>
  simp only at hW;obtain⟨hk,hW⟩:=hW;(repeat' split at hW)<;>try exact hW.elim
  rename_i id r c he _ row bR;have sH:∀ row,nQ σ id r row=⟨σ.env,(nQ σ id r row).aa⟩/\∀ e,nQ ⟨e,σ.aa⟩ id r row=⟨e,(nQ σ id r row).aa⟩:=by
   intro row;unfold nQ;simp only;split<;>simp_all
  refine dB (by simp[cls]) (aet _ _ _ _) (by have:=hW.2;rw[(sH _).1]at this;exact this) λe2 ob K2 hx dD=>?_;have kv:rowOf ⟨e2,σ.aa⟩ id r=some row:=bR;unfold b9;simp only[hx.1 x (by simp[Op.operands]),hx.1 y (by simp[Op.operands]),he,kv];rw[(sH _).2];exact⟨hk,hW.1,dD⟩
 case build t parts =>
  simp only at hW;(repeat' split at hW)<;>first|exact hW.elim|refine dA hW.2 ?_
  all_goals
   intro e2 ob K2 hx dD;obtain⟨h1,h2⟩:=parts_eq (parts:=parts) (by simpa [Op.operands] using hx.1);unfold b9;simp only[h1,h2, *];simp[hW.1]
 case buildSlice t _ parts =>
  simp only at hW;(repeat' split at hW)<;>first|exact hW.elim|refine dB (aU 3) (F5 _ _) hW.2 ?_
  intro e2 ob K2 hx dD;obtain⟨h1,h2⟩:=parts_eq (parts:=parts) (by simpa [Op.operands] using hx.1);unfold b9;simp only[h1,h2, *];simp[hW.1]
 case makeFunc fn first captured =>
  simp only at hW;split at hW<;>first|exact hW.elim|refine dA hW.2 λe2 ob K2 hx dD=>?_
  unfold b9;simp only[tI (l:=captured.toList) (f:=ev ⟨e2,ob⟩) (g:=ev σ) λy hy=>hx.1 y (by simp only[Op.operands,AQ,List.mem_append];exact .inr hy)];exact⟨hW.1,dD⟩
 case unOp op t x =>
  simp only at hW;split at hW
  ·rename_i b he;refine dA hW λe2 ob K2 hx dD=>?_;unfold b9;simp[ql,Op.operands]at hx;simp only[hx.1,he];exact dD
  ·rename_i k p he;obtain⟨v,hK,hl⟩:=aev hW;refine dA hK λe2 ob K2 hx dD=>?_;unfold b9;simp[ql,Op.operands]at hx;simp only[hx.1,he];exact hl _ dD
  ·exact hW.elim
 case binOp op t x y yt =>
  simp only at hW;split at hW
  ·rename_i k p k' q he hf;obtain⟨hk,hW⟩:=hW;obtain⟨v,hK,hl⟩:=aew hW;refine dA hK λe2 ob K2 hx dD=>?_;unfold b9;simp[ql,Op.operands,he,hf]at hx;simp only[hx.1.1,hx.1.2];exact⟨hk,hl _ dD⟩
  all_goals(repeat' split at hW)<;>first|exact hW.elim|exact hW.2.elim|refine dA hW.2 ?_
  all_goals
   intro e2 ob K2 hx dD;unfold b9;simp[ql,Op.operands, *]at hx ⊢;first|done|(simp_all;done)
 case slice t x lo hi mx =>
  simp only at hW;obtain⟨hk,c7,rfl,hW⟩:=hW;cases lo<;>cases hi<;>simp only[im,Option.map_none]at hW;all_goals(repeat' split at hW)<;>first|exact hW.elim|exact hW.2.elim|exact hW.2.2.elim|refine dA hW.2 ?_|refine dA hW.2.2 ?_|refine dA hW.2.2.2 ?_
  all_goals
   intro e2 ob K2 hx dD;unfold b9;simp only[cy.injEq]at *;simp[ql,Op.operands,oh,gR,cls, *]at hx ⊢;first|done|(simp_all;done)|(obtain⟨_,o',_,hk⟩:=hx;cases o'<;>simp_all [tZ];done)|(obtain⟨_,⟨o',_,hk⟩,_⟩:=hx;cases o'<;>simp_all [tZ];done)|trace_state
 case makeMap t r =>
  simp only at hW;obtain⟨⟨rfl,hk⟩,hK⟩:=hW;refine dB (aU 3) (F5 _ _) hK λe2 ob K2 hx dD=>?_;unfold b9;exact⟨⟨rfl,hk⟩,dD⟩
 case lookup t x i ok =>
  simp only at hW;split at hW
  ·rename_i ag l id iR L z eC nB nC;refine dA hW.2 λe2 ob K2 hx dD=>?_;have h1:=hx.1 x (by simp[Op.operands]);have h2:=hx.1 i (by simp[Op.operands]);have h3:lI ⟨e2,ob⟩ (ev σ x)=some (id,iR,L):=aey (λnZ bV o ho=>by
    have:=hx.2 x (by simp[Op.operands]) nZ (by rw[bV];rfl);unfold gR at this;simp[cls]at this;exact this o ho) nB
   unfold b9;simp only[h1,h2,eC,h3,nC];exact⟨hW.1,dD⟩
  ·exact hW.elim
 case mapUpdate t m k x =>
  simp only at hW;split at hW
  ·rename_i eC nB;obtain⟨qn,Dh⟩:=hW;refine dB (v:=.undef) (os:=_) (by simp[cls]) trivial Dh λe2 ob K2 hx dD=>?_;have h1:=hx.1 m (by simp[Op.operands]);have h2:=hx.1 k (by simp[Op.operands]);have h3:=hx.1 x (by simp[Op.operands]);have h4:lI ⟨e2,σ.aa⟩ (ev σ m)=_:=nB;unfold b9;simp only[h1,h2,h3,eC,h4];exact⟨qn,dD⟩
  ·exact hW.elim
 case mapEntry t m k =>
  simp only at hW;split at hW
  ·rename_i eC nB nC;obtain⟨qn,Dh⟩:=hW;refine dB (v:=_) (os:=_) (by simp[cls]) trivial Dh λe2 ob K2 hx dD=>?_;have h1:=hx.1 m (by simp[Op.operands]);have h2:=hx.1 k (by simp[Op.operands]);have h4:lI ⟨e2,σ.aa⟩ (ev σ m)=_:=nB;unfold b9;simp only[h1,h2,eC,h4,nC];exact⟨qn,dD⟩
  ·exact hW.elim
 case entryStore t m s x =>
  simp only at hW;split at hW
  ·rename_i hs nB;obtain⟨qn,Dh⟩:=hW;refine dB (v:=.undef) (os:=_) (by simp[cls]) trivial Dh λe2 ob K2 hx dD=>?_;have h1:=hx.1 m (by simp[Op.operands]);have h2:=hx.1 s (by simp[Op.operands]);have h3:=hx.1 x (by simp[Op.operands]);have h4:lI ⟨e2,σ.aa⟩ (ev σ m)=_:=nB;unfold b9;simp only[h1,h2,h3,hs,h4];exact⟨qn,dD⟩
  ·exact hW.elim
 all_goals(try simp only at hW);(try exact hW.elim)
 all_goals(repeat' split at hW)<;>first|exact hW.elim|exact hW.2.elim|exact hW.2.2.elim|refine dA hW ?_|refine dA hW.2 ?_|refine dA hW.2.2 ?_|refine dA hW.2.2.2 ?_|refine dB (aU 3) (F5 _ _) hW.2 ?_|refine dB (aU 3) (F5 _ _) hW.2.1 ?_
 all_goals
  intro e2 ob K2 hx dD;unfold b9;simp[ql,Op.operands,oh,gR,cls,-e8, *]at hx ⊢;first|done|(simp_all;done)|(obtain⟨_,rfl,_⟩:=hW;simp_all;done)|(obtain⟨_,o',_,hk⟩:=hx;cases o'<;>simp_all [tZ];done)
def adN{o:Oper}{σ:St}{K:St->Prop}(hW:b9 P o σ K):
  ∃ v os,kr (cls o.op) σ.aa os/\K ((⟨σ.env,os⟩:St).put o.dst v)/\∀ (e2:Nat->AV) (K2:St->Prop),(∀ x∈o.op.operands.toList,ev ⟨e2,σ.aa⟩ x=ev σ x)->K2 ((⟨e2,os⟩:St).put o.dst v)->b9 P o ⟨e2,σ.aa⟩ K2:=by
 obtain⟨v,os,h1,h2,h3⟩:=Rh hW;refine⟨v,os,h1,h2,λe2 K2 hx hK=>h3 e2 _ os K2 ⟨hx,λ_ _ _ _=>?_⟩ ?_ hK⟩
 ·unfold gR;(repeat' split)<;>first|trivial|exact λo ho=>ho|exact λo ho=>⟨o,ho,xX o⟩
 ·split
  ·rename_i hc;simpa [kr,hc] using h1
  ·exact⟨rfl,rfl⟩
def QH{o:Oper}{σ:St}{K:St->Prop}(hc:cls o.op<=2)(hW:b9 P o σ K):
  ∃ v,K (σ.put o.dst v)/\∀ (σ2:St) (K2:St->Prop),(∀ x∈o.op.operands.toList,ev σ2 x=ev σ x)->(∀ x∈o.op.operands.toList,∀ id,oh (ev σ x)=some id->gR (cls o.op) σ.aa[id]? σ2.aa[id]?) ->
   K2 (σ2.put o.dst v)->b9 P o σ2 K2:=by
 obtain⟨v,os,h1,h2,h3⟩:=Rh hW;simp only[kr,hc,if_true]at h1 h3;subst h1;exact⟨v,h2,λσ2 K2 hx ho hK=>h3 σ2.env σ2.aa _ K2 ⟨hx,ho⟩ rfl hK⟩
end Go.Am

