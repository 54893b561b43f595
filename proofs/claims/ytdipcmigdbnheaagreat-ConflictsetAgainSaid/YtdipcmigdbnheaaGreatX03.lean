import Derived.Test.YtdipcmigdbnheaaGreatX02
set_option linter.all false
set_option maxHeartbeats 0
set_option maxRecDepth 20000
open Bool renaming and_eq_true→ba
open List renaming mem_cons→b8,mem_of_getElem?→gf,getElem?_map→cg,getElem?_cons_zero→rL,getElem?_append_left→cd,getElem?_set_ne→bj,getElem?_cons_succ→vH,getElem?_append_right→eu,length_cons→dz,eq_nil_of_length_eq_zero→oO,getElem?_eq_some_iff→aM,getD_eq_getElem?_getD→aA,mem_map_of_mem→Bw,length_map→ed,mem_map→bZ,all_eq_true→gz,map_congr_left→kG
open Option renaming map_eq_some_iff→xl,some→cT,map_some→fR
open Nat renaming lt_or_ge→eh,le_refl→aG
open Array renaming toList_append→xk,getD_eq_getD_getElem?→eN,getElem?_append_left→Bx,getElem?_toList→y9
namespace Go.Am
variable {P:Program}
mutual
def aX(ρ:Nat->Nat):AV->AV
 |.ref id sz off len=>.ref (ρ id) sz off len
 |.ptr id r c=>.ptr (ρ id) r c
 |.agg cs=>.agg (nh ρ cs)
 |.bO cs=>.bO (nh ρ cs)
 |.fn f cs=>.fn f (nh ρ cs)
 |.gm t v=>.gm t (aX ρ v)
 |.fT id=>.fT (ρ id)
 |v=>v
def nh(ρ:Nat->Nat):List AV->List AV
 |[]=>[]
 |v::vs=>aX ρ v::nh ρ vs
end
def s9(ρ:Nat->Nat)(l:List AV):nh ρ l=l.map (aX ρ):=by
 induction l with
 |nil=>simp[nh]
 |cons v l ih=>simp[nh,ih]
def bH(ρ:Nat->Nat):Ob->Ob
 |.gone=>.gone
 |.var cs=>.var (cs.map (aX ρ))
 |.arr sz rows=>.arr sz (rows.map (·.map (aX ρ)))
 |.mp ag L=>.mp ag (L.map λp=>(p.1,aX ρ p.2))
mutual
def flat:AV->Bool
 |.tree ..=>false
 |.cq _=>false
 |.agg cs=>xI cs
 |.bO cs=>xI cs
 |.fn _ cs=>xI cs
 |.gm _ v=>flat v
 |_=>true
def xI:List AV->Bool
 |[]=>true
 |v::vs=>flat v&&xI vs
end
def Fg{l:List AV}(h:xI l=true):∀ v∈l,flat v=true:=by
 induction l with
 |nil=>intro v hv;simp at hv
 |cons x l ih =>
  simp only[xI,ba]at h;intro v hv;rcases b8.1 hv with rfl|hv
  ·exact h.1
  ·exact ih h.2 v hv
def td:Ob->Prop
 |.gone=>True
 |.var cs=>∀ v∈cs,flat v=true
 |.arr _ rows=>∀ row∈rows,∀ v∈row,flat v=true
 |.mp _ L=>∀ p∈L,flat p.2=true
def az.Wu{os:List Ob}{w:World}{Z Z':Nat->Prop}{blk:gn}{v:AV}{cv:Value}(h:az os w Z blk v cv)(hf:flat v=true):az os w Z' blk v cv:=by
 induction h with
 |undef cv=>exact .undef cv
 |bS v cv h=>cases h<;>first|exact .bS _ _ (.lit _)|simp[flat]at hf
 |cq=>simp[flat]at hf
 |j6 id sz off len cv h h1=>exact .j6 id sz off len cv h h1
 |lC id r c cv h h1=>exact .lC id r c cv h h1
 |ref id sz off len b o cap cap' rows h hb hl hc kI=>exact .ref id sz off len b o cap cap' rows h hb hl hc kI
 |ll id sz h hb=>exact .ll id sz h hb
 |lD id sz off b x bo rows h hb hl=>exact .lD id sz off b x bo rows h hb hl
 |l4 id c b cap cells h hb=>exact .l4 id c b cap cells h hb
 |mG id r c sz b o cap rows h hb=>exact .mG id r c sz b o cap rows h hb
 |agg cs a7 hs _ ih=>simp only[flat]at hf;exact .agg cs a7 hs (λj x hx=>ih j x hx (Fg hf x (gf hx)))
 |bO cs a7 hs _ ih=>simp only[flat]at hf;exact .bO cs a7 hs (λj x hx=>ih j x hx (Fg hf x (gf hx)))
 |fn f cs a7 hs _ ih=>simp only[flat]at hf;exact .fn f cs a7 hs (λj x hx=>ih j x hx (Fg hf x (gf hx)))
 |gm t v cv _ ih=>simp only[flat]at hf;exact .gm t v cv (ih hf)
 |fT id b ag L h hb=>exact .fT id b ag L h hb
 |oS id cv h h1=>exact .oS id cv h h1
def az.up{os os':List Ob}{w:World}{Z Z':Nat->Prop}{blk jL:gn}{ρ:Nat->Nat}{v:AV}{cv:Value}(h:az os w Z blk v cv)(hz:∀ b,Z b->Z' b)(ho:∀ j o,os[j]?=some o->os'[ρ j]?=some (bH ρ o)/\(o≠.gone->jL (ρ j)=blk j)):az os' w Z' jL (aX ρ v) cv:=by
 induction h with
 |undef cv=>exact .undef cv
 |bS v cv h =>
  have h':az os' w Z' jL v cv:=.bS _ _ (h.mono (λb hb=>⟨hz b hb,rfl⟩));cases h<;>simpa [aX] using h'
 |cq cells b o f te hc ht=>exact .cq cells b o f (hz b te) hc (λj x hx=>(ht j x hx).mono (λb hb=>⟨hz b hb,rfl⟩))
 |j6 id sz off len cv h h1=>exact .j6 _ sz off len cv (ho id _ h).1 h1
 |lC id r c cv h h1=>exact .lC _ r c cv (ho id _ h).1 h1
 |ref id sz off len b o cap cap' rows h hb hl hc kI =>
  obtain⟨h1,h2⟩:=ho id _ h;exact .ref _ sz off len b o cap cap' _ h1 ((h2 Jd).trans hb) (by simpa using hl) hc kI
 |ll id sz h hb =>
  obtain⟨h1,h2⟩:=ho id _ h;exact .ll _ sz h1 ((h2 Jd).trans hb)
 |lD id sz off b x bo rows h hb hl =>
  obtain⟨h1,h2⟩:=ho id _ h;exact .lD _ sz off b x bo _ h1 ((h2 Jd).trans hb) (by simpa using hl)
 |l4 id c b cap cells h hb =>
  obtain⟨h1,h2⟩:=ho id _ h;exact .l4 _ c b cap _ h1 ((h2 Jd).trans hb)
 |mG id r c sz b o cap rows h hb =>
  obtain⟨h1,h2⟩:=ho id _ h;exact .mG _ r c sz b o cap _ h1 ((h2 Jd).trans hb)
 |agg cs a7 hs _ ih =>
  simp only[aX,s9];refine .agg _ a7 (by simpa using hs) (λj x hx=>?_);simp only[cg,xl]at hx;obtain⟨y,hy,rfl⟩:=hx;exact ih j y hy
 |bO cs a7 hs _ ih =>
  simp only[aX,s9];refine .bO _ a7 (by simpa using hs) (λj x hx=>?_);simp only[cg,xl]at hx;obtain⟨y,hy,rfl⟩:=hx;exact ih j y hy
 |fn f cs a7 hs _ ih =>
  simp only[aX,s9];refine .fn f _ a7 (by simpa using hs) (λj x hx=>?_);simp only[cg,xl]at hx;obtain⟨y,hy,rfl⟩:=hx;exact ih j y hy
 |gm t v cv _ ih=>simp only[aX];exact .gm t _ cv ih
 |fT id b ag L h hb =>
  obtain⟨h1,h2⟩:=ho id _ h;exact .fT _ b ag _ h1 ((h2 Jd).trans hb)
 |oS id cv h h1=>exact .oS _ cv (ho id _ h).1 h1
def zu{ρ:Nat->Nat}{o:Ob}:bH ρ o=.gone↔o=.gone:=by cases o<;>simp[bH]
def Ob.Wv{ρ:Nat->Nat}{x y:Ob}(h:x.dP y):(bH ρ x).dP (bH ρ y):=by
 cases x<;>cases y<;>simp[Ob.dP,bH]at h ⊢<;>exact h
def az.down{os os':List Ob}{w:World}{Z Z':Nat->Prop}{blk jL:gn}{ρ:Nat->Nat}{v:AV}{cv:Value}(h:az os w Z blk v cv)(hz:∀ b,Z b->Z' b)(ho:∀ j x,os[ρ j]?=some x->∃ o,os'[j]?=some o/\(o=.gone\/(x=bH ρ o/\jL j=blk (ρ j)))):∀ v',v=aX ρ v'->az os' w Z' jL v' cv:=by
 induction h with
 |undef cv=>intro v' hv;cases v'<;>simp[aX]at hv;exact .undef cv
 |bS v cv h =>
  intro v' hv;have h':az os' w Z' jL v cv:=.bS _ _ (h.mono (λb hb=>⟨hz b hb,rfl⟩));cases h<;>cases v'<;>simp[aX]at hv<;>(first|(subst hv;exact h')|(obtain⟨rfl,rfl⟩:=hv;exact h'))
 |cq cells b o f te hc ht =>
  intro v' hv;cases v'<;>simp[aX]at hv;subst hv;exact .cq _ b o f (hz b te) hc (λj x hx=>(ht j x hx).mono (λb hb=>⟨hz b hb,rfl⟩))
 |j6 id sz off len cv h h1 =>
  intro v' hv;cases v'<;>simp[aX]at hv;obtain⟨rfl,rfl,rfl,rfl⟩:=hv;obtain⟨o,h2,rfl |⟨h3,_⟩⟩:=ho _ _ h
  ·exact .j6 _ _ _ _ cv h2 h1
  ·have:=zu.1 h3.symm;subst this;exact .j6 _ _ _ _ cv h2 h1
 |lC id r c cv h h1 =>
  intro v' hv;cases v'<;>simp[aX]at hv;obtain⟨rfl,rfl,rfl⟩:=hv;obtain⟨o,h2,rfl |⟨h3,_⟩⟩:=ho _ _ h
  ·exact .lC _ _ _ cv h2 h1
  ·have:=zu.1 h3.symm;subst this;exact .lC _ _ _ cv h2 h1
 |ref id sz off len b o cap cap' rows h hb hl hc kI =>
  intro v' hv;cases v'<;>simp[aX]at hv;obtain⟨rfl,rfl,rfl,rfl⟩:=hv;obtain⟨x,h2,rfl |⟨h3,h4⟩⟩:=ho _ _ h
  ·exact .j6 _ _ _ _ _ h2 rfl
  ·cases x<;>simp[bH]at h3;obtain⟨rfl,rfl⟩:=h3;exact .ref _ _ _ _ b o cap cap' _ h2 (h4.trans hb) (by simpa using hl) hc kI
 |ll id sz h hb =>
  intro v' hv;cases v'<;>simp[aX]at hv;obtain⟨rfl,rfl,rfl,rfl⟩:=hv;obtain⟨x,h2,rfl |⟨h3,h4⟩⟩:=ho _ _ h
  ·exact .j6 _ _ _ _ _ h2 rfl
  ·cases x<;>simp[bH]at h3;obtain⟨rfl,h3⟩:=h3;subst h3;exact .ll _ _ h2 (h4.trans hb)
 |lD id sz off b x bo rows h hb hl =>
  intro v' hv;cases v'<;>simp[aX]at hv;obtain⟨rfl,rfl,rfl,rfl⟩:=hv;obtain⟨y,h2,rfl |⟨h3,h4⟩⟩:=ho _ _ h
  ·exact .j6 _ _ _ _ _ h2 rfl
  ·cases y<;>simp[bH]at h3;obtain⟨rfl,rfl⟩:=h3;exact .lD _ _ _ b x bo _ h2 (h4.trans hb) (by simpa using hl)
 |l4 id c b cap cells h hb =>
  intro v' hv;cases v'<;>simp[aX]at hv;obtain⟨rfl,rfl,rfl⟩:=hv;obtain⟨y,h2,rfl |⟨h3,h4⟩⟩:=ho _ _ h
  ·exact .lC _ _ _ _ h2 rfl
  ·cases y<;>simp[bH]at h3;exact .l4 _ _ b cap _ h2 (h4.trans hb)
 |mG id r c sz b o cap rows h hb =>
  intro v' hv;cases v'<;>simp[aX]at hv;obtain⟨rfl,rfl,rfl⟩:=hv;obtain⟨y,h2,rfl |⟨h3,h4⟩⟩:=ho _ _ h
  ·exact .lC _ _ _ _ h2 rfl
  ·cases y<;>simp[bH]at h3;obtain⟨rfl,rfl⟩:=h3;exact .mG _ _ _ _ b o cap _ h2 (h4.trans hb)
 |agg cs a7 hs _ ih =>
  intro v' hv;cases v'<;>simp[aX,s9]at hv;rename_i oT;subst hv;exact .agg _ a7 (by simpa using hs) (λj x hx=>ih j (aX ρ x) (by simp[hx]) x rfl)
 |bO cs a7 hs _ ih =>
  intro v' hv;cases v'<;>simp[aX,s9]at hv;rename_i oT;subst hv;exact .bO _ a7 (by simpa using hs) (λj x hx=>ih j (aX ρ x) (by simp[hx]) x rfl)
 |fn f cs a7 hs _ ih =>
  intro v' hv;cases v'<;>simp[aX,s9]at hv;obtain⟨rfl,hv⟩:=hv;subst hv;exact .fn _ _ a7 (by simpa using hs) (λj x hx=>ih j (aX ρ x) (by simp[hx]) x rfl)
 |gm t v cv _ ih =>
  intro v' hv;cases v'<;>simp[aX]at hv;obtain⟨rfl,hv⟩:=hv;exact .gm _ _ cv (ih _ hv)
 |fT id b ag L h hb =>
  intro v' hv;cases v'<;>simp[aX]at hv;subst hv;obtain⟨y,h2,rfl |⟨h3,h4⟩⟩:=ho _ _ h
  ·exact .oS _ _ h2 rfl
  ·cases y<;>simp[bH]at h3;obtain⟨rfl,h3⟩:=h3;exact .fT _ b _ _ h2 (h4.trans hb)
 |oS id cv h h1 =>
  intro v' hv;cases v'<;>simp[aX]at hv;subst hv;obtain⟨y,h2,rfl |⟨h3,h4⟩⟩:=ho _ _ h
  ·exact .oS _ _ h2 h1
  ·exact .oS _ _ (by rw[h2,zu.1 h3.symm]) h1
def KQ(P : Program)(f : FuncId): Prop := ∃ fn, P.funcs[f]? = some fn /\ (fn.name == "runtime.NumGoroutine") = false /\ fn.body.isNone = false
def an(P:Program)(f:FuncId)(args:List AV)(aa:List Ob)(res:AV)(bg:List Ob):Prop :=
 KQ P f/\∀ γ:Cx,γ.tmps.size=args.length->bk ⟨λk=>args.getD k .undef,aa⟩ γ ->
  Calls P f γ.tmps γ.w (λe w'=>∃ cv aD,e=.returned cv/\aD.w=w'/\aD.tmps = #[cv]/\bk ⟨λk=>[res].getD k .undef,bg⟩ aD/\Fr aa γ bg aD)
inductive b9(σ:St)(kp:Nat->Prop):AV->AV->Prop
 |lit (x:Value):b9 σ kp (.lit x) (.lit x)
 |tree (s:Nat) (r:List (List AV)):b9 σ kp (.tree s r) (.tree s r)
 |nil (sz:Nat):b9 σ kp (.tree sz []) (.lit (.slice none 0 0))
 |ref (id sz off len:Nat) (rows fE:List (List AV)) (g:Nat->Nat->AV) (ho:σ.aa[id]?=some (.arr sz rows)) (pJ:¬ kp id) (hl:fE.length=((rows.drop off).take len).length) (hw:∀ row∈fE,row.length=sz)
   (h1:∀ r c v,cellAt fE r c=some v->cellAt ((rows.drop off).take len) r c=some (g r c)) (h2:∀ r c v,cellAt fE r c=some v->b9 σ kp v (g r c)):b9 σ kp (.tree sz fE) (.ref id sz off len)
inductive aE(σ:St)(kp:Nat->Prop)(ρ:Nat->Nat)(snap:Bool):AV->AV->Prop
 |same (v:AV):aE σ kp ρ snap v (aX ρ v)
 |snap (c d:AV) (hs:snap=true) (h:b9 σ kp c d):aE σ kp ρ snap c d
 |agg (cs ds:List AV) (hl:cs.length=ds.length) (h:∀ (j:Nat) c d,cs[j]?=some c->ds[j]?=some d->aE σ kp ρ snap c d):aE σ kp ρ snap (.agg cs) (.agg ds)
 |bO (cs ds:List AV) (hl:cs.length=ds.length) (h:∀ (j:Nat) c d,cs[j]?=some c->ds[j]?=some d->aE σ kp ρ snap c d):aE σ kp ρ snap (.bO cs) (.bO ds)
def bm(n:Nat)(ak:List Nat)(j:Nat):Nat:=if j<ak.length then ak.getD j 0 else n+(j-ak.length)
def dY(aa:List Ob):List Nat->List Ob->List Ob
 |i::ak,o::new=>dY (aa.set i o) ak new
 |[],new=>aa++new
 |_::_,[]=>aa
def E6(ak:List Nat):∀ (aa new:List Ob),ak.length<=new.length->(dY aa ak new).length=aa.length+(new.length-ak.length):=by
 induction ak with
 |nil=>intro aa new _;simp[dY]
 |cons i ak ih =>
  intro aa new h;cases new with
  |nil=>simp at h
  |cons o new=>simp only[dY];rw[ih _ _ (by simpa using h)];simp
def BV(ak:List Nat):∀ (aa new:List Ob),ak.length<=new.length->ak.Nodup->(∀ i∈ak,i<aa.length)->∀ j,j<ak.length->(dY aa ak new)[ak.getD j 0]?=new[j]?:=by
 induction ak with
 |nil=>intro aa new _ _ _ j hj;simp at hj
 |cons i ak ih =>
  intro aa new h hn hl j hj;cases new with
  |nil=>simp at h
  |cons o new =>
   simp only[dY];rw[List.nodup_cons]at hn;have hi:=hl i Jd;have h':ak.length<=new.length:=by simpa using h
   cases j with
   |zero =>
    simp only[List.getD_cons_zero,rL];have key:∀ (ak:List Nat) (aa new:List Ob),ak.length<=new.length->i ∉ ak->i<aa.length->(dY aa ak new)[i]?=aa[i]?:=by
     intro ak
     induction ak with
     |nil=>intro aa new _ _ hi;simp only[dY];rw[cd hi]
     |cons k ak Ww =>
      intro aa new h v7 hi;cases new with
      |nil=>simp at h
      |cons o new =>
       simp only[b8,not_or]at v7;simp only[dY];rw[Ww _ _ (by simpa using h) v7.2 (by simpa using hi),bj (Ne.symm v7.1)]
    rw[key ak _ _ h' hn.1 (by simpa using hi)];simp[hi]
   |succ j =>
    simp only[List.getD_cons_succ,vH];exact ih _ _ h' hn.2 (λk hk=>by simpa using hl k (by simp[hk])) j (by simpa using hj)
def B3(ak:List Nat):∀ (aa new:List Ob),ak.length<=new.length->∀ i,i ∉ ak->i<aa.length->(dY aa ak new)[i]?=aa[i]?:=by
 induction ak with
 |nil=>intro aa new _ i _ hi;simp only[dY];rw[cd hi]
 |cons k ak ih =>
  intro aa new h i v7 hi;cases new with
  |nil=>simp at h
  |cons o new =>
   simp only[b8,not_or]at v7;simp only[dY];rw[ih _ _ (by simpa using h) i v7.2 (by simpa using hi),bj (Ne.symm v7.1)]
def JK(ak:List Nat):∀ (aa new:List Ob),ak.length<=new.length->∀ m,(dY aa ak new)[aa.length+m]?=new[ak.length+m]?:=by
 induction ak with
 |nil=>intro aa new _ m;simp only[dY];rw[eu I6];simp
 |cons k ak ih =>
  intro aa new h m;cases new with
  |nil=>simp at h
  |cons o new =>
   simp only[dY];have:=ih (aa.set k o) new (by simpa using h) m;simp only[List.length_set]at this;rw[this];simp only[dz];have e:ak.length+1+m=(ak.length+m)+1:=I6;rw[e];simp
end Go.Am
namespace Go.Am
variable {P:Program}
def B4(P:Program)(f:FuncId)(args:List AV)(σ:St)(K:AV->St->Prop):Prop :=
 ∃ (ak:List Nat) (snap:Bool) (cV:List AV) (bJ:List Ob) (res:AV) (cz:List Ob),an P f cV bJ res cz /\
  (ak.Nodup/\bJ.length=ak.length/\(∀ (j:Nat) o,bJ[j]?=some o->σ.aa[ak.getD j 0]?=some (bH (bm σ.aa.length ak) o)) /\
   cV.length=args.length/\(∀ (j:Nat) c d,cV[j]?=some c->args[j]?=some d->aE σ (·∈ak) (bm σ.aa.length ak) snap c d) /\
   (snap=true->flat res=true/\∀ o∈cz,td o)) /\
  K (aX (bm σ.aa.length ak) res) { σ with aa:=dY σ.aa ak (cz.map (bH (bm σ.aa.length ak))) }
def b9.zj{σ:St}{γ:Cx}(h:bk σ γ){kp:Nat->Prop}{γc:Cx}(hz:∀ b,γ.Z b->γc.Z b)(hw:γc.w=γ.w)(Fh:∀ id b o cap,¬ kp id->Live σ.aa id->γ.blk id=some (b,o,cap)->γc.Z b){c d:AV}(ha:b9 σ kp c d):∀ cv,az σ.aa γ.w γ.Z γ.blk d cv->gj γc.w γc.Z c cv:=by
 induction ha with
 |lit x=>intro cv hv;rw[hv.cH];exact .lit x
 |tree s r=>intro cv hv;exact hv.v8.mono (λb hb=>⟨hz b hb,by rw[hw]⟩)
 |nil sz=>intro cv hv;rw[hv.cH];exact .nil sz 0 none
 |ref id sz off len rows fE g aP pJ hl0 BL rX pG ih =>
  intro cv hv;obtain⟨h0,cD,Wx⟩:=h.ei id _ aP;have cp:Live σ.aa id:=⟨_,aP,Jd⟩;cases hv with
  |bS _ _ h=>cases h
  |j6 _ _ _ _ _ h=>rw[aP]at h;simp at h
  |ll _ _ h' hb =>
   have:fE=[]:=oO (by simpa using hl0);subst this;exact gj.nil sz 0 none
  |lD _ _ _ b x bo Wy h' hb hl =>
   have:fE=[]:=oO (by simpa using hl0);subst this;exact gj.nil sz 0 (some ⟨b,x,none⟩)
  |ref _ _ _ _ b o cap cap' Wy h' hb hl hc kI =>
   rw[aP]at h';simp at h';subst h';rcases Wx with⟨h1,_⟩|⟨b',o',zw,cur,t,h1,h2,h3,h4,h5,h6⟩
   ·rw[hb]at h1;simp at h1
   ·rw[hb]at h1;simp at h1;obtain⟨rfl,rfl,rfl⟩:=h1;have hlen:((rows.drop off).take len).length=len:=aaZ;have m6:∀ r c v,cellAt ((rows.drop off).take len) r c=some v->cellAt rows (off+r) c=some v/\r<len:=by
     intro r c v hv;simp only[cellAt,List.getElem?_take,List.getElem?_drop]at hv;split at hv
     ·exact⟨hv,by assumption⟩
     ·simp at hv
    have EY:γc.Z b:=Fh id b o cap pJ cp hb;have:=gj.tree (w:=γc.w) (Z:=γc.Z) sz fE b (o+off*sz) cap' (λr c=>cur.getD (o+((off+r)*sz+c)) Go.undef) EY
     BL (by rw[hl0,hlen];exact kI)
     (λr c v hv=>by
      obtain⟨n7,hr⟩:=m6 r c _ (rX r c v hv);obtain⟨qz,jZ⟩:=zx cD n7;have bq:=v9 (show off+r<cap by omega) jZ;rw[hw];have e:o+off*sz+(r*sz+c)=o+((off+r)*sz+c):=by rw[Nat.add_mul];omega
      rw[e];exact xJ h2 I6)
     (λr c v hv=>by
      obtain⟨n7,_⟩:=m6 r c _ (rX r c v hv);exact ih r c v hv _ (h6 _ _ _ n7))
    rw[hl0,hlen]at this;exact this
def aE.rel{σ:St}{γ:Cx}(h:bk σ γ){kp:Nat->Prop}{ρ:Nat->Nat}{bJ:List Ob}{snap:Bool}{γc:Cx}(hz:∀ b,γ.Z b->γc.Z b)(hw:γc.w=γ.w)(Fh:snap=true->∀ id b o cap,¬ kp id->Live σ.aa id->γ.blk id=some (b,o,cap)->γc.Z b)(ho:∀ j x,σ.aa[ρ j]?=some x->∃ o,bJ[j]?=some o/\(o=.gone\/(x=bH ρ o/\γc.blk j=γ.blk (ρ j)))){c d:AV}(ha:aE σ kp ρ snap c d):∀ cv,az σ.aa γ.w γ.Z γ.blk d cv->az bJ γc.w γc.Z γc.blk c cv:=by
 induction ha with
 |same v =>
  intro cv hv;rw[hw];exact hv.down hz ho v rfl
 |snap c d hs hf =>
  intro cv hv;exact .bS _ _ (hf.zj h hz hw (Fh hs) cv hv)
 |agg cs ds hl _ ih =>
  intro cv hv;obtain⟨a7,rfl,h1,h2⟩:=hv.KR;refine .agg cs a7 I6 (λj x hx=>?_);have hj:j<ds.length:=by have:=(aM.1 hx).1;omega
  exact ih j x ds[j] hx (by simp[hj]) _ (h2 j _ (by simp[hj]))
 |bO cs ds hl _ ih =>
  intro cv hv;obtain⟨a7,rfl,h1,h2⟩:=hv.KS;refine .bO cs a7 I6 (λj x hx=>?_);have hj:j<ds.length:=by have:=(aM.1 hx).1;omega
  exact ih j x ds[j] hx (by simp[hj]) _ (h2 j _ (by simp[hj]))
def KT{n:Nat}{ak:List Nat}(_hs:∀ i∈ak,i<n){j:Nat}(h:bm n ak j<n):j<ak.length/\bm n ak j=ak.getD j 0:=by
 unfold bm at h ⊢;split
 ·exact⟨by assumption,rfl⟩
 ·rename_i hj;rw[if_neg hj]at h;omega
def aC{ak:List Nat}{j:Nat}(h:j<ak.length):ak.getD j 0∈ak:=by
 rw[aA];simp[h]
def KU{ak:List Nat}(hn:ak.Nodup){i j:Nat}(hi:i<ak.length)(hj:j<ak.length)(h:ak.getD i 0=ak.getD j 0):i=j:=by
 rw[aA,aA]at h;simp[hi,hj]at h;exact(List.getElem_inj hn).1 h
def B5{ak:List Nat}{i:Nat}(h:i∈ak):∃j,j<ak.length/\ak.getD j 0=i:=by
 obtain⟨j,hj⟩:=List.mem_iff_getElem?.1 h;have:=(aM.1 hj).1;exact⟨j,this,by rw[aA,hj];rfl⟩
def ez(P:Program)(f:FuncId)(args:List AV)(aa:List Ob)(gk:AV->List Ob->Prop):Prop :=
 KQ P f/\∀ γ:Cx,γ.tmps.size=args.length->bk ⟨λk=>args.getD k .undef,aa⟩ γ ->
  Calls P f γ.tmps γ.w (λe w'=>∃ res bg cv aD,gk res bg/\e=.returned cv/\aD.w=w'/\aD.tmps = #[cv]/\bk ⟨λk=>[res].getD k .undef,bg⟩ aD/\Fr aa γ bg aD)
def Fi(P:Program)(f:FuncId)(args:List AV)(σ:St)(K:AV->St->Prop):Prop :=
 ∃ (ak:List Nat) (snap:Bool) (cV:List AV) (bJ:List Ob) (gk:AV->List Ob->Prop),ez P f cV bJ gk /\
  (ak.Nodup/\bJ.length=ak.length/\(∀ (j:Nat) o,bJ[j]?=some o->σ.aa[ak.getD j 0]?=some (bH (bm σ.aa.length ak) o)) /\
   cV.length=args.length/\(∀ (j:Nat) c d,cV[j]?=some c->args[j]?=some d->aE σ (·∈ak) (bm σ.aa.length ak) snap c d)) /\
  ∀ res cz,gk res cz->(snap=true->flat res=true/\∀ o∈cz,td o) /\
   K (aX (bm σ.aa.length ak) res) { σ with aa:=dY σ.aa ak (cz.map (bH (bm σ.aa.length ak))) }
def KV{σ:St}{γ:Cx}(h:bk σ γ){f:FuncId}{args:List AV}{argv:Array Value}(a6:argv.size=args.length)(Fj:∀ (j:Nat) d,args[j]?=some d->az σ.aa γ.w γ.Z γ.blk d (argv.getD j Go.undef)){K:AV->St->Prop}(hc:Fi P f args σ K):
  Calls P f argv γ.w (λe w'=>∃ cv v σ' aD,e=.returned cv/\aD.w=w'/\aD.tmps=γ.tmps/\bk σ' aD/\Fr σ.aa γ σ'.aa aD/\az σ'.aa aD.w aD.Z aD.blk v cv/\K v σ'/\σ'.env=σ.env):=by
 obtain⟨ak,snap,cV,bJ,gk,hH,⟨cu,cy,nm,gp,lZ⟩,WA⟩:=hc;have fl:∀ i∈ak,i<σ.aa.length:=by
  intro i hi;obtain⟨j,hj,rfl⟩:=B5 hi;have:j<bJ.length:=I6;exact(aM.1 (nm j bJ[j] (by simp[this]))).1
 let ρ:=bm σ.aa.length ak
 let S:Nat->Prop:=λb=>snap=true/\∃ id o cap,id ∉ ak/\Live σ.aa id/\γ.blk id=some (b,o,cap)
 let γc:Cx:={ w:=γ.w,tmps:=argv,Z:=λb=>γ.Z b\/S b,blk:=λj=>if j<ak.length then γ.blk (ak.getD j 0) else none }
 have tg:∀ j x,σ.aa[ρ j]?=some x->∃ o,bJ[j]?=some o/\(o=.gone\/(x=bH ρ o/\γc.blk j=γ.blk (ρ j))):=by
  intro j x hx;obtain⟨hj,hr⟩:=KT fl (aM.1 hx).1;have ln:j<bJ.length:=I6;have:=nm j bJ[j] (by simp[ln]);refine⟨bJ[j],by simp[ln],.inr ⟨?_,?_⟩⟩
  ·have cZ:σ.aa[bm σ.aa.length ak j]?=some x:=hx;rw[hr,this]at cZ;simpa using cZ.symm
  ·show(if j<ak.length then γ.blk (ak.getD j 0) else none)=γ.blk (bm σ.aa.length ak j);rw[if_pos hj,hr]
 have je:∀ b,γ.Z b->γc.Z b:=λb hb=>.inl hb;have r9:∀ j,Live bJ j->Live σ.aa (ak.getD j 0)/\j<ak.length:=by
  rintro j⟨o,ho,hg⟩;have hj:=(aM.1 ho).1;exact⟨⟨_,nm j o ho,λe=>hg (zu.1 e)⟩,I6⟩
 have nq:=λ{i b o c}=>h.blt (i:=i) (b:=b) (o:=o) (c:=c);have Fk:bk ⟨λk=>cV.getD k .undef,bJ⟩ γc:=by
  refine⟨λk=>?_,?_,?_,?_,?_⟩
  ·rcases eh k cV.length with hk|hk
   ·have e:cV.getD k .undef=cV[k]:=by simp[hk]
    show az bJ γc.w γc.Z γc.blk (cV.getD k .undef) _;rw[e];have KW:k<args.length:=I6;exact(lZ k cV[k] args[k] (by simp[hk]) (by simp[KW])).rel h je rfl (λhs id b o cap cP hl hb=>.inr ⟨hs,id,o,cap,cP,hl,hb⟩) tg _ (Fj k _ (by simp[KW]))
   ·have e:cV.getD k .undef=.undef:=by simp[hk]
    show az bJ γc.w γc.Z γc.blk (cV.getD k .undef) _;rw[e];exact .undef _
  ·intro j o ho;have hj:=(aM.1 ho).1;have zy:j<ak.length:=by rw[<- cy];exact hj
   have aP:=h.ei _ _ (nm j o ho);have hb:γc.blk j=γ.blk (ak.getD j 0):=by show(if j<ak.length then _ else _)=_;rw[if_pos zy]
   cases o with
   |gone=>trivial
   |var cells =>
    obtain⟨b,cap,cur,t,h1,h2,h3,h4⟩:=aP;exact⟨b,cap,cur,t,hb.trans h1,h2,by simpa using h3,λc v hv=>(h4 c (aX ρ v) (by simp[hv];rfl)).down je tg v rfl⟩
   |mp ag L =>
    obtain⟨b,f,h1,h2,h3,h4⟩:=aP;refine⟨b,f,hb.trans h1,?_,λp hp=>h3 (p.1,aX ρ p.2) (Bw (f:=λp:List Int×AV=>(p.1,aX ρ p.2)) hp),λj p hp=>(h4 j (p.1,aX ρ p.2) (by simp only[cg,hp];rfl)).down je tg p.2 rfl⟩;rw[Fl,ed]at h2;exact h2
   |arr sz rows =>
    obtain⟨h0,hr,aP⟩:=aP;refine⟨h0,λrow aZ=>by simpa using hr (row.map (aX ρ)) (Bw aZ),?_⟩;rcases aP with⟨h1,h2⟩|⟨b,o,cap,cur,t,h1,h2,h3,h4,h5,h6⟩
    ·exact .inl ⟨hb.trans h1,by simpa using h2⟩
    ·refine .inr ⟨b,o,cap,cur,t,hb.trans h1,h2,h3,by simpa using h4,h5,λr c v hv=>(h6 r c (aX ρ v) ?_).down je tg v rfl⟩;simp only[cellAt,cg]at hv ⊢;cases cm:rows[r]? with
     |none=>simp[cm]at hv
     |some row=>simp[cm]at hv ⊢;exact⟨v,hv,rfl⟩
  ·intro i j b o c o' c' hi hj fC fU;obtain⟨h1,h2⟩:=r9 i hi;obtain⟨h3,h4⟩:=r9 j hj;have e1:γc.blk i=γ.blk (ak.getD i 0):=by show(if i<ak.length then _ else _)=_;rw[if_pos h2]
   have e2:γc.blk j=γ.blk (ak.getD j 0):=by show(if j<ak.length then _ else _)=_;rw[if_pos h4]
   exact KU cu h2 h4 (h.inj _ _ b o c o' c' h1 h3 (e1▸fC) (e2▸fU))
  ·rintro b ⟨i,o,c,hi,hb⟩ hz;obtain⟨h1,h2⟩:=r9 i hi;have e1:γc.blk i=γ.blk (ak.getD i 0):=by show(if i<ak.length then _ else _)=_;rw[if_pos h2]
   rw[e1]at hb;rcases hz with hz|⟨_,id,o',cap',cP,hl,cX⟩
   ·exact h.nz b ⟨_,o,c,h1,hb⟩ hz
   ·have:=h.inj _ _ b o c o' cap' h1 hl hb cX;exact cP (this▸aC h2)
  ·rintro b (hb|⟨_,id,o,cap,_,hl,hb⟩)
   ·exact h.gD b hb
   ·exact nq hl hb
 have jf:=hH.2 γc (by show argv.size=_;omega) Fk;refine jf.mono ?_;rintro e w'⟨res,cz,cv,aD,Fm,rfl,rfl,ur,iu,gH⟩;obtain⟨KX,hK⟩:=WA res cz Fm;have WB:ak.length<=cz.length:=by have:=gH.len;omega
 let new:=cz.map (bH ρ)
 have aq:ak.length<=new.length:=by simpa [new] using WB
 let nr:=dY σ.aa ak new
 let iw:Cx:={ w:=aD.w,tmps:=γ.tmps,Z:=λb=>aD.Z b/\¬ S b,blk:=λi=>if i<σ.aa.length then γ.blk i else aD.blk (ak.length+(i-σ.aa.length)) }
 have zz:∀ j o,cz[j]?=some o->nr[ρ j]?=some (bH ρ o)/\(o≠.gone->iw.blk (ρ j)=aD.blk j):=by
  intro j o ho;by_cases hj:j<ak.length
  ·have e:ρ j=ak.getD j 0:=by show bm _ _ _=_;simp only[bm];rw[if_pos hj]
   have cR:=fl _ (aC hj);refine⟨?_,λhg=>?_⟩
   ·rw[e];show(dY σ.aa ak new)[ak.getD j 0]?=_;rw[BV ak σ.aa new aq cu fl j hj];simp[new,ho]
   ·rw[e];show(if ak.getD j 0<σ.aa.length then _ else _)=_;rw[if_pos cR];have:=(gH.ki j I6 ⟨o,ho,hg⟩).1;rw[this];show _=if j<ak.length then _ else _;rw[if_pos hj]
  ·have e:ρ j=σ.aa.length+(j-ak.length):=by show bm _ _ _=_;simp only[bm];rw[if_neg hj]
   have e2:ak.length+(j-ak.length)=j:=I6;refine⟨?_,λhg=>?_⟩
   ·rw[e];show(dY σ.aa ak new)[_]?=_;rw[JK ak σ.aa new aq,e2];simp[new,ho]
   ·rw[e];show(if σ.aa.length+(j-ak.length)<σ.aa.length then _ else aD.blk (ak.length+(σ.aa.length+(j-ak.length)-σ.aa.length)))=_;rw[if_neg I6];congr 1;omega
 have KY:∀ b,S b->¬ γ.Z b:=by
  rintro b⟨_,id,o,cap,_,hl,hb⟩;exact h.nz b ⟨id,o,cap,hl,hb⟩
 have xK:∀ b,nt bJ γc.blk b->∃ i∈ak,∃ o cap,Live σ.aa i/\γ.blk i=some (b,o,cap):=by
  rintro b⟨j,o,c,hl,hb⟩;obtain⟨h1,h2⟩:=r9 j hl;have e1:γc.blk j=γ.blk (ak.getD j 0):=by show(if j<ak.length then _ else _)=_;rw[if_pos h2]
  exact⟨_,aC h2,o,c,h1,e1▸hb⟩
 have WC:∀ i,i ∉ ak->Live σ.aa i->∀ b o c,γ.blk i=some (b,o,c)->aD.w.heap[b]?=γ.w.heap[b]?:=by
  intro i hi hl b o c hb;refine gH.aw b (nq hl hb) (λho=>?_);obtain⟨i',hi',o',c',g6,cX⟩:=xK b ho;have:=h.inj _ _ b o c o' c' hl g6 hb cX;exact hi (this▸hi')
 have KZ:∀ v cv,az σ.aa γ.w γ.Z γ.blk v cv->az nr iw.w iw.Z iw.blk v cv:=by
  intro v cv hv;refine hv.mono (λb hb=>⟨⟨gH.z0 b (je b hb),λhs=>KY b hs hb⟩,?_⟩) (λi o ho=>?_)
  ·refine gH.aw b (h.gD b hb) (λho=>?_);obtain⟨i',_,o',c',g6,cX⟩:=xK b ho;exact h.nz b ⟨i',o',c',g6,cX⟩ hb
  ·have hi:=(aM.1 ho).1;have fm:iw.blk i=γ.blk i:=by show(if i<σ.aa.length then _ else _)=_;rw[if_pos hi]
   by_cases l5:i∈ak
   ·obtain⟨j,hj,rfl⟩:=B5 l5;have ln:j<cz.length:=I6;have wa:nr[ak.getD j 0]?=some (bH ρ cz[j]):=by
     show(dY σ.aa ak new)[ak.getD j 0]?=_;rw[BV ak σ.aa new aq cu fl j hj];simp[new,ln]
    by_cases hg:cz[j]=.gone
    ·left;rw[wa,hg];rfl
    ·right;refine⟨fm,_,wa,?_⟩;obtain⟨_,x,x',hx,cZ,qH⟩:=gH.ki j I6 ⟨cz[j],by simp[ln],hg⟩;have e1:cz[j]=x':=by simpa [ln] using cZ
     have e2:=nm j x hx;rw[ho]at e2;simp at e2;rw[e1,e2];exact Ob.Wv qH
   ·have wa:nr[i]?=some o:=by
     show(dY σ.aa ak new)[i]?=_;rw[B3 ak σ.aa new aq i l5 hi];exact ho
    by_cases hg:o=.gone
    ·subst hg;exact .inl wa
    ·exact .inr ⟨fm,o,wa,Ob.jz hg⟩
 have B6:∀ v cv,az cz aD.w aD.Z aD.blk v cv->(snap=true->flat v=true)->az nr iw.w iw.Z iw.blk (aX ρ v) cv:=by
  intro v cv hv eA;by_cases n8:snap=true
  ·exact(hv.Wu (Z':=iw.Z) (eA n8)).up (λb hb=>hb) zz
  ·exact hv.up (λb hb=>⟨hb,λhs=>n8 hs.1⟩) zz
 have nu:∀ i,Live nr i->(i<σ.aa.length/\i ∉ ak/\Live σ.aa i/\iw.blk i=γ.blk i)\/∃ j,Live cz j/\i=ρ j/\iw.blk i=aD.blk j:=by
  rintro i⟨o,ho,hg⟩;have hlen:=(aM.1 ho).1;have JJ:nr.length=σ.aa.length+(new.length-ak.length):=E6 ak σ.aa new aq;have B7:new.length=cz.length:=by simp[new]
  rcases eh i σ.aa.length with hi|hi
  ·by_cases l5:i∈ak
   ·right;obtain⟨j,hj,rfl⟩:=B5 l5;have ln:j<cz.length:=I6;have e:ρ j=ak.getD j 0:=by show bm _ _ _=_;simp only[bm];rw[if_pos hj]
    have hx:=zz j cz[j] (by simp[ln]);rw[e]at hx;rw[ho]at hx;simp only[cT.injEq]at hx;have pP:cz[j]≠.gone:=by intro h0;apply hg;rw[hx.1,h0];rfl
    exact⟨j,⟨_,by simp[ln],pP⟩,e.symm,hx.2 pP⟩
   ·left;have:nr[i]?=σ.aa[i]?:=B3 ak σ.aa new aq i l5 hi;rw[this]at ho;exact⟨hi,l5,⟨o,ho,hg⟩,by show(if i<σ.aa.length then _ else _)=_;rw[if_pos hi]⟩
  ·right;have ln:ak.length+(i-σ.aa.length)<cz.length:=I6;have e:ρ (ak.length+(i-σ.aa.length))=i:=by
    show bm _ _ _=_;simp only[bm];rw[if_neg I6];omega
   have hx:=zz _ _ (show cz[ak.length+(i-σ.aa.length)]?=some cz[ak.length+(i-σ.aa.length)] by simp[ln]);rw[e]at hx;rw[ho]at hx;simp only[cT.injEq]at hx;have pP:cz[ak.length+(i-σ.aa.length)]≠.gone:=by intro h0;apply hg;rw[hx.1,h0];rfl
   exact⟨_,⟨_,by simp[ln],pP⟩,e.symm,hx.2 pP⟩
 have Fo:∀ j b o c,Live cz j->aD.blk j=some (b,o,c)->(∃ i∈ak,∃ o cap,Live σ.aa i/\γ.blk i=some (b,o,cap))\/γ.w.heap.size<=b:=by
  intro j b o c hl hb;rcases gH.own b ⟨j,o,c,hl,hb⟩ with h1|h1
  ·exact .inl (xK b h1)
  ·exact .inr h1
 have WD:bk ⟨σ.env,nr⟩ iw:=by
  refine⟨λk=>KZ _ _ (h.ax k),?_,?_,?_,?_⟩
  ·intro i o ho;by_cases cK:o=.gone
   ·subst cK;trivial
   rcases nu i ⟨o,ho,cK⟩ with⟨hi,l5,hl,fm⟩|⟨j,⟨x,hx,eQ⟩,rfl,fm⟩
   ·have he:nr[i]?=σ.aa[i]?:=B3 ak σ.aa new aq i l5 hi;have cL:σ.aa[i]?=some o:=by rw[<- he];exact ho
    exact(h.ei i o cL).mono KZ fm (λb o c hb=>WC i l5 hl b o c hb)
   ·have WE:=(zz j x hx).1;have e:o=bH ρ x:=by
     have:nr[ρ j]?=some o:=ho;rw[WE]at this;simpa using this.symm
    subst e;have aP:=iu.ei j x hx;have eA:snap=true->td x:=λhs=>(KX hs).2 x (gf hx);cases x with
    |gone=>trivial
    |var cells =>
     obtain⟨b,cap,cur,t,h1,h2,h3,h4⟩:=aP;refine⟨b,cap,cur,t,fm.trans h1,h2,by simpa using h3,λc v hv=>?_⟩;simp only[cg,xl]at hv;obtain⟨y,hy,rfl⟩:=hv;exact B6 _ _ (h4 c y hy) (λhs=>eA hs y (gf hy))
    |mp ag L =>
     obtain⟨b,f,h1,h2,h3,h4⟩:=aP;refine⟨b,f,fm.trans h1,?_,λp hp=>?_,λj p hp=>?_⟩
     ·rw[Fl,ed];exact h2
     ·obtain⟨y,hy,rfl⟩:=bZ.1 hp;exact h3 y hy
     ·simp only[cg,xl]at hp;obtain⟨y,hy,rfl⟩:=hp;exact B6 _ _ (h4 j y hy) (λhs=>eA hs y (gf hy))
    |arr sz rows =>
     obtain⟨h0,hr,aP⟩:=aP;refine⟨h0,?_,?_⟩
     ·intro row aZ;simp only[bZ]at aZ;obtain⟨y,hy,rfl⟩:=aZ;simpa using hr y hy
     ·rcases aP with⟨h1,h2⟩|⟨b,o,cap,cur,t,h1,h2,h3,h4,h5,h6⟩
      ·exact .inl ⟨fm.trans h1,by simpa using h2⟩
      ·refine .inr ⟨b,o,cap,cur,t,fm.trans h1,h2,h3,by simpa using h4,h5,λr c v hv=>?_⟩;simp only[cellAt,cg]at hv;cases cm:rows[r]? with
       |none=>simp[cm]at hv
       |some row =>
        simp only[cm,fR,Option.bind_some,cg,xl]at hv;obtain⟨y,hy,rfl⟩:=hv;exact B6 _ _ (h6 r c y (by simp[cellAt,cm,hy])) (λhs=>eA hs row (gf cm) y (gf hy))
  ·intro i j b o c o' c' hi hj fC fU;rcases nu i hi with⟨l6,l5,qI,fm⟩|⟨ji,xL,rfl,fm⟩<;>rcases nu j hj with⟨kL,zy,B8,zA⟩|⟨jj,K3,rfl,zA⟩
   ·exact h.inj i j b o c o' c' qI B8 (fm▸fC) (zA▸fU)
   ·rw[fm]at fC;rw[zA]at fU;rcases Fo jj b o' c' K3 fU with⟨i',hi',o1,c1,g6,cX⟩|lE
    ·exact absurd (h.inj i i' b o c o1 c1 qI g6 fC cX) (λe=>l5 (e▸hi'))
    ·have:=nq qI fC;omega
   ·rw[fm]at fC;rw[zA]at fU;rcases Fo ji b o c xL fC with⟨i',hi',o1,c1,g6,cX⟩|lE
    ·exact absurd (h.inj j i' b o' c' o1 c1 B8 g6 fU cX) (λe=>zy (e▸hi'))
    ·have:=nq B8 fU;omega
   ·rw[fm]at fC;rw[zA]at fU;rw[iu.inj ji jj b o c o' c' xL K3 fC fU]
  ·rintro b ⟨i,o,c,hi,hb⟩ ⟨hz,Fp⟩;rcases nu i hi with⟨l6,l5,qI,fm⟩|⟨ji,xL,rfl,fm⟩
   ·rw[fm]at hb;rcases gH.z1 b hz with(h1|h1)|h1|h1
    ·exact h.nz b ⟨i,o,c,qI,hb⟩ h1
    ·exact Fp h1
    ·obtain⟨i',hi',o1,c1,g6,cX⟩:=xK b h1;exact l5 ((h.inj i i' b o c o1 c1 qI g6 hb cX)▸hi')
    ·have:=nq qI hb;have wc:γ.w.heap.size<=b:=h1;omega
   ·rw[fm]at hb;exact iu.nz b ⟨ji,o,c,xL,hb⟩ hz
  ·rintro b ⟨hz,_⟩;exact iu.gD b hz
 refine⟨cv,aX ρ res,⟨σ.env,nr⟩,iw,rfl,rfl,rfl,WD,?_,?_,hK,rfl⟩
 ·refine⟨gH.lB,gH.tape,gH.output,gH.size,?_,?_,?_,?_,?_,?_⟩
  ·intro b hb uE;refine gH.aw b hb (λho=>uE ?_);obtain⟨i',_,o1,c1,g6,cX⟩:=xK b ho;exact⟨i',o1,c1,g6,cX⟩
  ·intro b hb;exact⟨gH.z0 b (je b hb),λhs=>KY b hs hb⟩
  ·rintro b ⟨hz,Fp⟩;rcases gH.z1 b hz with(h1|h1)|h1|h1
   ·exact .inl h1
   ·exact absurd h1 Fp
   ·obtain⟨i',_,o1,c1,g6,cX⟩:=xK b h1;exact .inr (.inl ⟨i',o1,c1,g6,cX⟩)
   ·exact .inr (.inr h1)
  ·rintro b ⟨i,o,c,hi,hb⟩;rcases nu i hi with⟨l6,l5,qI,fm⟩|⟨ji,xL,rfl,fm⟩
   ·rw[fm]at hb;exact .inl ⟨i,o,c,qI,hb⟩
   ·rw[fm]at hb;rcases Fo ji b o c xL hb with⟨i',_,o1,c1,g6,cX⟩|lE
    ·exact .inl ⟨i',o1,c1,g6,cX⟩
    ·exact .inr lE
  ·show σ.aa.length<=(dY σ.aa ak new).length;rw[E6 ak σ.aa new aq];omega
  ·rintro i hi ⟨o,ho,hg⟩;refine⟨by show(if i<σ.aa.length then _ else _)=_;rw[if_pos hi],?_⟩;by_cases l5:i∈ak
   ·obtain⟨j,hj,rfl⟩:=B5 l5;have ln:j<cz.length:=I6;have wa:nr[ak.getD j 0]?=some (bH ρ cz[j]):=by
     show(dY σ.aa ak new)[ak.getD j 0]?=_;rw[BV ak σ.aa new aq cu fl j hj];simp[new,ln]
    have dF:nr[ak.getD j 0]?=some o:=ho;rw[wa]at dF;simp only[cT.injEq]at dF;have pP:cz[j]≠.gone:=by intro h0;apply hg;rw[<- dF,h0];rfl
    obtain⟨_,x,x',hx,cZ,qH⟩:=gH.ki j I6 ⟨cz[j],by simp[ln],pP⟩;have e1:cz[j]=x':=by simpa [ln] using cZ
    refine⟨bH ρ x,o,nm j x hx,ho,?_⟩;rw[<- dF,e1];cases x<;>cases x'<;>simp_all [Ob.dP,bH]
   ·have he:nr[i]?=σ.aa[i]?:=B3 ak σ.aa new aq i l5 hi;have cL:σ.aa[i]?=some o:=by rw[<- he];exact ho
    exact⟨o,o,cL,ho,Ob.jz hg⟩
 ·have:=iu.ax 0;rw[ur]at this;exact B6 res cv (by simpa using this) (λhs=>(KX hs).1)
def an.r{f:FuncId}{args:List AV}{aa:List Ob}{res:AV}{bg:List Ob}(h:an P f args aa res bg):ez P f args aa (λr os=>r=res/\os=bg) :=
 ⟨h.1,λγ a6 hs=>(h.2 γ a6 hs).mono λ_ _ ⟨cv,aD,h1,h2,h3,h4,h5⟩=>⟨res,bg,cv,aD,⟨rfl,rfl⟩,h1,h2,h3,h4,h5⟩⟩
def B4.r{f:FuncId}{args:List AV}{σ:St}{K:AV->St->Prop}(h:B4 P f args σ K):Fi P f args σ K:=by
 obtain⟨ak,snap,cV,bJ,res,cz,h1,⟨h2,h3,h4,h5,h6,h7⟩,h8⟩:=h;exact⟨ak,snap,cV,bJ,_,h1.r,⟨h2,h3,h4,h5,h6⟩,λr os ⟨e1,e2⟩=>by subst e1;subst e2;exact⟨h7,h8⟩⟩
def K4{σ:St}{γ:Cx}(h:bk σ γ){f:FuncId}{args:List AV}{argv:Array Value}(a6:argv.size=args.length)(Fj:∀ (j:Nat) d,args[j]?=some d->az σ.aa γ.w γ.Z γ.blk d (argv.getD j Go.undef)){K:AV->St->Prop}(hc:B4 P f args σ K):
  Calls P f argv γ.w (λe w'=>∃ cv v σ' aD,e=.returned cv/\aD.w=w'/\aD.tmps=γ.tmps/\bk σ' aD/\Fr σ.aa γ σ'.aa aD/\az σ'.aa aD.w aD.Z aD.blk v cv/\K v σ'/\σ'.env=σ.env) :=
 KV h a6 Fj hc.r
end Go.Am
namespace Go.Am
variable {P:Program}
def bk.select{σ:St}{γ:Cx}(h:bk σ γ)(ak:List Nat)(snap:Bool)(bJ:List Ob)(cu:ak.Nodup)(cy:bJ.length=ak.length)(nm:∀ (j:Nat) o,bJ[j]?=some o->o=.gone\/σ.aa[ak.getD j 0]?=some (bH (bm σ.aa.length ak) o))(fl:∀ i∈ak,i<σ.aa.length)(e:Nat->AV)(tm:Array Value)(he:∀ k,e k=.undef\/∃ d,aE σ (λid=>∃ j,j<ak.length/\ak.getD j 0=id/\bJ[j]?≠some .gone) (bm σ.aa.length ak) snap (e k) d/\az σ.aa γ.w γ.Z γ.blk d (tm.getD k Go.undef)):
  ∃ aD,aD.w=γ.w/\aD.tmps=tm/\bk ⟨e,bJ⟩ aD/\((∀ i,i<bJ.length->aD.blk i=γ.blk (ak.getD i 0))/\(∀ b,γ.Z b->aD.Z b)/\(∀ b,aD.Z b->γ.Z b\/nt σ.aa γ.blk b) /\
   ∀ i,Live bJ i->Live σ.aa (ak.getD i 0)/\∃ o,bJ[i]?=some o/\σ.aa[ak.getD i 0]?=some (bH (bm σ.aa.length ak) o)):=by
 let ρ:=bm σ.aa.length ak
 let kp:Nat->Prop:=λid=>∃ j,j<ak.length/\ak.getD j 0=id/\bJ[j]?≠some .gone
 let S:Nat->Prop:=λb=>snap=true/\∃ id o cap,¬ kp id/\Live σ.aa id/\γ.blk id=some (b,o,cap)
 let γc:Cx:={ w:=γ.w,tmps:=tm,Z:=λb=>γ.Z b\/S b,blk:=λj=>if j<ak.length then γ.blk (ak.getD j 0) else none }
 have tg:∀ j x,σ.aa[ρ j]?=some x->∃ o,bJ[j]?=some o/\(o=.gone\/(x=bH ρ o/\γc.blk j=γ.blk (ρ j))):=by
  intro j x hx;obtain⟨hj,hr⟩:=KT fl (aM.1 hx).1;have ln:j<bJ.length:=I6;refine⟨bJ[j],by simp[ln],?_⟩;rcases nm j bJ[j] (by simp[ln]) with hg|this
  ·exact .inl hg
  ·right;refine⟨?_,?_⟩
   ·have cZ:σ.aa[bm σ.aa.length ak j]?=some x:=hx;rw[hr,this]at cZ;simpa using cZ.symm
   ·show(if j<ak.length then γ.blk (ak.getD j 0) else none)=γ.blk (bm σ.aa.length ak j);rw[if_pos hj,hr]
 have je:∀ b,γ.Z b->γc.Z b:=λb hb=>.inl hb;have r9:∀ j,Live bJ j->Live σ.aa (ak.getD j 0)/\j<ak.length/\kp (ak.getD j 0)/\∃ o,bJ[j]?=some o/\σ.aa[ak.getD j 0]?=some (bH ρ o):=by
  rintro j⟨o,ho,hg⟩;have hj:=(aM.1 ho).1;rcases nm j o ho with h'|h'
  ·exact absurd h' hg
  ·exact⟨⟨_,h',λe=>hg (zu.1 e)⟩,I6,⟨j,I6,rfl,by rw[ho];simpa using hg⟩,o,ho,h'⟩
 have oU:∀ j,j<ak.length->γc.blk j=γ.blk (ak.getD j 0):=λj hj=>by show(if j<ak.length then _ else _)=_;rw[if_pos hj]
 have Fk:bk ⟨e,bJ⟩ γc:=by
  refine⟨λk=>?_,?_,?_,?_,?_⟩
  ·rcases he k with h0|⟨d,hd,hr⟩
   ·show az bJ γc.w γc.Z γc.blk (e k) _;rw[h0];exact .undef _
   ·exact hd.rel h je rfl (λhs id b o cap cP hl hb=>.inr ⟨hs,id,o,cap,cP,hl,hb⟩) tg _ hr
  ·intro j o ho;by_cases cK:o=.gone
   ·subst cK;trivial
   obtain⟨_,zy,_,o',cL,WG⟩:=r9 j ⟨o,ho,cK⟩;have:o=o':=by
    have h1:bJ[j]?=some o:=ho;rw[cL]at h1;simpa using h1.symm
   subst this;have aP:=h.ei _ _ WG;have hb:=oU j zy;cases o with
   |gone=>trivial
   |var cells =>
    obtain⟨b,cap,cur,t,h1,h2,h3,h4⟩:=aP;exact⟨b,cap,cur,t,hb.trans h1,h2,by simpa using h3,λc v hv=>(h4 c (aX ρ v) (by simp only[cg,hv];rfl)).down je tg v rfl⟩
   |mp ag L =>
    obtain⟨b,f,h1,h2,h3,h4⟩:=aP;refine⟨b,f,hb.trans h1,?_,λp hp=>h3 (p.1,aX ρ p.2) (Bw (f:=λp:List Int×AV=>(p.1,aX ρ p.2)) hp),λj p hp=>(h4 j (p.1,aX ρ p.2) (by simp only[cg,hp];rfl)).down je tg p.2 rfl⟩;rw[Fl,ed]at h2;exact h2
   |arr sz rows =>
    obtain⟨h0,hr,aP⟩:=aP;refine⟨h0,λrow aZ=>by simpa using hr (row.map (aX ρ)) (Bw aZ),?_⟩;rcases aP with⟨h1,h2⟩|⟨b,o,cap,cur,t,h1,h2,h3,h4,h5,h6⟩
    ·exact .inl ⟨hb.trans h1,by simpa using h2⟩
    ·refine .inr ⟨b,o,cap,cur,t,hb.trans h1,h2,h3,by simpa using h4,h5,λr c v hv=>(h6 r c (aX ρ v) ?_).down je tg v rfl⟩;simp only[cellAt,cg]at hv ⊢;cases cm:rows[r]? with
     |none=>simp[cm]at hv
     |some row=>simp[cm]at hv ⊢;exact⟨v,hv,rfl⟩
  ·intro i j b o c o' c' hi hj fC fU;obtain⟨h1,h2,_⟩:=r9 i hi;obtain⟨h3,h4,_⟩:=r9 j hj;exact KU cu h2 h4 (h.inj _ _ b o c o' c' h1 h3 (oU i h2▸fC) (oU j h4▸fU))
  ·rintro b ⟨i,o,c,hi,hb⟩ hz;obtain⟨h1,h2,h3,_⟩:=r9 i hi;rw[oU i h2]at hb;rcases hz with hz|⟨_,id,o',cap',cP,hl,cX⟩
   ·exact h.nz b ⟨_,o,c,h1,hb⟩ hz
   ·have:=h.inj _ _ b o c o' cap' h1 hl hb cX;exact cP (this▸h3)
  ·rintro b (hb|⟨_,id,o,cap,_,hl,hb⟩)
   ·exact h.gD b hb
   ·exact h.blt hl hb
 refine⟨γc,rfl,rfl,Fk,λi hi=>oU i I6,je,?_,?_⟩
 ·rintro b (hb|⟨_,id,o,cap,_,hl,hb⟩)
  ·exact .inl hb
  ·exact .inr ⟨id,o,cap,hl,hb⟩
 ·intro i hi;obtain⟨h1,h2,_,h4⟩:=r9 i hi;exact⟨h1,h4⟩
def Ob.WH{ρ:Nat->Nat}{x o:Ob}(h:x.dP (bH ρ o)):x.dP o:=by
 cases x<;>cases o<;>simp[Ob.dP,bH]at h ⊢<;>exact h
def Fr.select{os:List Ob}{γ0 γ aD:Cx}{σ:St}(hf:Fr os γ0 σ.aa γ){ak:List Nat}{bJ:List Ob}(hn:os.length<=ak.length)(cy:bJ.length=ak.length)(cP:∀ i,i<os.length->ak.getD i 0=i)(hw:aD.w=γ.w)(h:(∀ i,i<bJ.length->aD.blk i=γ.blk (ak.getD i 0))/\(∀ b,γ.Z b->aD.Z b)/\(∀ b,aD.Z b->γ.Z b\/nt σ.aa γ.blk b) /\
   ∀ i,Live bJ i->Live σ.aa (ak.getD i 0)/\∃ o,bJ[i]?=some o/\σ.aa[ak.getD i 0]?=some (bH (bm σ.aa.length ak) o)):Fr os γ0 bJ aD:=by
 obtain⟨h1,h2,h3,h4⟩:=h;refine⟨by rw[hw];exact hf.lB,by rw[hw];exact hf.tape,by rw[hw];exact hf.output,by rw[hw];exact hf.size,by rw[hw];exact hf.aw,λb hb=>h2 b (hf.z0 b hb),?_,?_,I6,?_⟩
 ·intro b hb;rcases h3 b hb with h|h
  ·exact hf.z1 b h
  ·rcases hf.own b h with h|h
   ·exact .inr (.inl h)
   ·exact .inr (.inr h)
 ·rintro b ⟨i,o,c,hi,hb⟩;have bq:=hi.lt;rw[h1 i bq]at hb;exact hf.own b ⟨_,o,c,(h4 i hi).1,hb⟩
 ·intro i hi hl;obtain⟨h5,o,ho,cL⟩:=h4 i hl;rw[cP i hi]at h5 cL;obtain⟨h6,x,x',hx,cZ,hk⟩:=hf.ki i hi h5;refine⟨by rw[h1 i hl.lt,cP i hi];exact h6,x,o,hx,ho,?_⟩;rw[cL]at cZ;simp only[cT.injEq]at cZ;rw[<- cZ]at hk;exact Ob.WH hk
def gl(N:Nat)(os:List Ob)(γ0:Cx)(σ:St)(a:Act)(w:World):Prop :=
 a.defers=[]/\a.tmps.size=N/\∃ γ,γ.w=w/\γ.tmps=a.tmps/\bk σ γ/\Fr os γ0 σ.aa γ
def W(P:Program)(N n0:Nat)(c:Code)(Q:Exit->St->Prop)(σ:St):Prop :=
 ∀ (os:List Ob) (γ0:Cx) (a:Act) (w:World),os.length=n0->gl N os γ0 σ a w->c.wp P (λe a' w'=>∃ σ',Q e σ'/\gl N os γ0 σ' a' w') a w
def oQ(P:Program)(g:FuncId)(args:List AV)(dst:Option Tmp)(K:St->Prop)(σ:St):Prop:=B4 P g args σ λv σ'=>K (σ'.put dst v)
def uC(P:Program)(t:TypeId)(m:String):Option (FuncId×Option TypeId) :=
 match P.info? t with
 |none=>none
 |some i =>
  match i.methods.find? (·.name==m) with
  |none=>none
  |some r =>
   match r.path.isEmpty,r.func,P.underlying t with
   |true,some (g,pr),some (.pointer e)=>some (g,if pr then none else some e)
   |_,_,_=>none
def m9(P:Program)(σ:St)(v:AV)(K:FuncId->AV->Prop):Option (FuncId×Option TypeId)->Prop
 |some (g,none)=>K g v
 |some (g,some e) =>
  (ty P e).kind≠99 /\
  match v with
  |.ptr id r c =>
   match rowOf σ id r with
   |some row=>ld (ty P e) row c λx=>K g x
   |none=>False
  |_=>False
 |none=>False
def a8(P:Program)(o:Oper)(σ:St)(K:St->Prop):Prop :=
 match o.op with
 |.call { callee:=.value f,args,.. } =>
  match ev σ f with
  |.fn g aT=>oQ P g (args.toList.map (ev σ)++aT) o.dst K σ
  |_=>False
 |.call { callee:=.invoke r m,args,.. } =>
  match ev σ r with
  |.gm t v=>m9 P σ v (λg x=>oQ P g (x::args.toList.map (ev σ)) o.dst K σ) (uC P t m)
  |_=>False
 |_=>cf P o σ K
def mH(P:Program)(o:Oper)(K:St->Prop)(b want:Bool)(σ:St):Prop:=(b=want->a8 P o σ K)/\(b≠want->K (σ.put o.dst (.lit (.tuple #[]))))
def opsL(P:Program)(ops:Array Oper):List Oper->(St->Prop)->St->Prop
 |[],K,σ=>K σ
 |o::r,K,σ =>
  match o.guard with
  |none=>a8 P o σ (opsL P ops r K)
  |some (j,want) =>
   match (ops[j]?).bind (·.dst) with
   |none=>False
   |some d =>
    match σ.env d with
    |.lit (.bool b)=>mH P o (opsL P ops r K) b want σ
    |.lit (.tuple vs)=>vs = #[]/\opsL P ops r K (σ.put o.dst (.lit (.tuple #[])))
    |_=>False
def rW(a:Act)(d:Option Tmp)(v:Value):(a.put d v).tmps.size=a.tmps.size:=by cases d<;>simp[Act.put]
def put_defers(a:Act)(d:Option Tmp)(v:Value):(a.put d v).defers=a.defers:=by cases d<;>rfl
def WI(xt:TypeId)(a:Addr)(x y:String):Builtin.ssaWrapNilChk_ #[xt] xt #[.pointer (some a),strVal x,strVal y]=pure (.pointer (some a)):=rfl
def K5{w:World}{t:TypeId}{i:TypeInfo}(h:P.info? t=some i):(typeInfo t).run P w=.ok i w:=by
 simp[typeInfo,h]
def ext1(x:Value)(A:Array Value):(#[x]++A).extract 1 (#[x]++A).size=A:=by
 apply Array.ext';simp only[Array.toList_extract,List.extract,xk,Array.size_append];simp[List.take_of_length_le]
def WJ{σ:St}{γ:Cx}(hs:bk σ γ){t:TypeId}{m:String}{v:AV}{cv:Value}(hv:az σ.aa γ.w γ.Z γ.blk v cv){K:FuncId->AV->Prop}(h:m9 P σ v K (uC P t m)):
  ∃ g x cx,(Go.method (P.types.size+Made.depth) t cv m).run P γ.w=.ok (g,cx) γ.w/\az σ.aa γ.w γ.Z γ.blk x cx/\K g x:=by
 obtain⟨fu,WK⟩:∃fu,P.types.size+Made.depth=fu+1:=Nat.exists_eq_succ_of_ne_zero (by unfold Made.depth;omega);rw[WK];unfold Go.method;unfold uC at h;cases hi:P.info? t with
 |none=>simp[hi,m9]at h
 |some i =>
  simp only[hi]at h;cases hf:i.methods.find? (·.name==m) with
  |none=>simp[hf,m9]at h
  |some r =>
   simp only[hf]at h;split at h
   ·rename_i g pr e hp hr hu;have qJ:r.path = #[]:=Array.isEmpty_iff.1 hp;cases pr with
    |true =>
     simp only[if_pos,m9]at h;refine⟨g,v,cv,?_,hv,h⟩;simp[K5 hi,hf,qJ,follow,hr,receiverAt,run_underlying hu,Place.get]
    |false =>
     simp only[if_neg,Bool.false_eq_true,not_false_eq_true,m9]at h;obtain⟨hk,h⟩:=h;cases v with
     |ptr id rr c =>
      simp only at h;cases aZ:rowOf σ id rr with
      |none=>simp[aZ]at h
      |some row =>
       simp only[aZ]at h;obtain⟨x,cx,h1,h2,h3⟩:=Fq hs hk hv aZ h;refine⟨g,x,cx,?_,h2,h3⟩;obtain⟨b,base,cap,cur,tt,o,rfl,_⟩:=B9 hs hv aZ;simp only[Instr.loadAt,Instr.sureAddr,Sem.run_bind,Sem.run_pure,Result.andThen_ok]at h1;simp[K5 hi,hf,qJ,follow,hr,receiverAt,run_underlying hu,Place.get,WI,asAddr,h1]
     |_=>exact h.elim
   ·exact h.elim
def vR{N:Nat}{os:List Ob}{γ0:Cx}{o:Oper}{σ:St}{K:St->Prop}(h:a8 P o σ K){a:Act}{w:World}(aR:gl N os γ0 σ a w)(hd:∀ d,o.dst=some d->d<N){Q:Exit->Act->World->Prop}{next:Act->World->Prop}(hn:∀ σ' a' w',K σ'->gl N os γ0 σ' a' w'->next a' w'):o.wp P a w next Q:=by
 obtain⟨iN,a6,γ,rfl,ha,hs,hf⟩:=aR;have qK:∀ d,o.dst=some d->d<a.tmps.size:=λd h=>by rw[a6];exact hd d h
 have WL:cf P o σ K->o.wp P a γ.w next Q:=by
  intro h;obtain⟨n,x,w',σ',aD,hr,Fs,hK,iu,gH,nw,jK⟩:=WM h hs ha qK;unfold Oper.wp;rw[hr];have eP:gl N os γ0 σ' (a.put o.dst x) w':=⟨by rw[put_defers];exact iN,by rw[rW];exact a6,aD,nw,jK,iu,hf.trans gH⟩;rcases Fs with rfl|⟨rfl,rfl⟩
  ·exact hn _ _ _ hK eP
  ·exact hn _ _ _ hK eP
 unfold a8 at h;split at h
 ·rename_i f args eY dR;split at h
  ·rename_i g aT he;have dE:=sc hs ha f;rw[he]at dE;obtain⟨a7,a9,jX,qL⟩:=dE.K6;have lZ:∀ (j:Nat) d,(args.toList.map (ev σ)++aT)[j]?=some d->az σ.aa γ.w γ.Z γ.blk d (((args.map a.eval)++a7).getD j Go.undef):=by
    intro j d hj;simp only[eN];rcases eh j args.size with bq|lE
    ·rw[cd (by simpa using bq)]at hj;rw[Bx (by simpa using bq)];simp only[cg,y9,Array.getElem?_map]at hj ⊢;cases hx:args[j]? with
     |none=>simp[hx]at hj
     |some y=>simp[hx]at hj ⊢;subst hj;exact sc hs ha y
    ·rw[eu (by simpa using lE)]at hj;rw[Array.getElem?_append_right (by simpa using lE)];simp only[ed,Array.length_toList,Array.size_map]at hj ⊢;have:=qL _ d hj;simpa [eN] using this
   unfold oQ at h;have jf:=K4 hs (argv:=(args.map a.eval)++a7) (by simp[jX]) lZ h;obtain⟨ak,snap,cV,bJ,res,cz,⟨⟨fn,th,oV,uF⟩,_⟩,_⟩:=h;unfold Oper.wp;have hr:(execOp a.eval o).run P γ.w=.ok (.enter g ((args.map a.eval)++a7)) γ.w:=by
    have fV : ¬ fn.name = "runtime.NumGoroutine" := by simpa using oV
    have nx:¬ fn.body=none:=by intro e;rw[e]at uF;simp at uF
    simp[execOp,dR,resolve,a9,Deferred.ofValue,invoke,callFunc,th,fV,nx]
   rw[hr];show Calls P g _ _ _;refine jf.mono ?_;rintro e w'⟨cv,v,σ',aD,rfl,rfl,jK,iu,gH,hv,hK,uG⟩;refine hn _ _ _ hK ⟨by rw[put_defers];exact iN,by rw[rW];exact a6,{ aD with tmps:=(a.put o.dst cv).tmps },rfl,rfl,pH iu (by rw[jK,ha]) qK hv,?_⟩;rw[pI];exact(hf.trans gH).put _
  ·exact h.elim
 ·rename_i r m args eY dR;split at h
  ·rename_i t v he;have dE:=sc hs ha r;rw[he]at dE;obtain⟨Ca,a9,qL⟩:=dE.K7;obtain⟨g,x,cx,hm,hx,h⟩:=WJ hs qL h;have lZ:∀ (j:Nat) d,(x::args.toList.map (ev σ))[j]?=some d->az σ.aa γ.w γ.Z γ.blk d ((#[cx]++args.map a.eval).getD j Go.undef):=by
    intro j d hj;simp only[eN];cases j with
    |zero =>
     simp only[rL,cT.injEq]at hj;subst hj;rw[Bx Jd];simpa using hx
    |succ j =>
     simp only[vH,cg,y9]at hj;rw[Array.getElem?_append_right Jd];simp only[List.size_toArray,dz,List.length_nil,Nat.zero_add,Nat.add_sub_cancel,Array.getElem?_map];cases hy:args[j]? with
     |none=>simp[hy]at hj
     |some y=>simp[hy]at hj ⊢;subst hj;exact sc hs ha y
   unfold oQ at h;have jf:=K4 hs (argv:=#[cx]++args.map a.eval) aaZ lZ h;obtain⟨ak,snap,cV,bJ,res,cz,⟨⟨fn,th,oV,uF⟩,_⟩,_⟩:=h;unfold Oper.wp;have hr:(execOp a.eval o).run P γ.w=.ok (.enter g (#[cx]++args.map a.eval)) γ.w:=by
    have fV : ¬ fn.name = "runtime.NumGoroutine" := by simpa using oV
    have nx:¬ fn.body=none:=by intro e;rw[e]at uF;simp at uF
    have e0:(#[Value.iface t Ca]++args.map a.eval)[0]?=some (.iface t Ca):=by rw[Bx Jd];simp
    have e1:=ext1 (.iface t Ca) (args.map a.eval);have e2:(callMethod (.iface t Ca) m (args.map a.eval)).run P γ.w=.ok (.enter g (#[cx]++args.map a.eval)) γ.w:=by
     unfold callMethod;simp only[Sem.run_bind,run_program,Result.andThen_ok,hm];simp[callFunc,th,fV,nx]
    simp only[execOp,dR,resolve,a9,pure_bind,invoke,e0,e1];exact e2
   rw[hr];show Calls P g _ _ _;refine jf.mono ?_;rintro e w'⟨cv,v,σ',aD,rfl,rfl,jK,iu,gH,hv,hK,uG⟩;refine hn _ _ _ hK ⟨by rw[put_defers];exact iN,by rw[rW];exact a6,{ aD with tmps:=(a.put o.dst cv).tmps },rfl,rfl,pH iu (by rw[jK,ha]) qK hv,?_⟩;rw[pI];exact(hf.trans gH).put _
  ·exact h.elim
 ·exact WL h
def zB{N:Nat}{os:List Ob}{γ0:Cx}{ops:Array Oper}(hd:∀ o∈ops.toList,∀ d,o.dst=some d->d<N){K:St->Prop}{Q:Exit->Act->World->Prop}(hQ:∀ σ' a' w',K σ'->gl N os γ0 σ' a' w'->Q .normal a' w'):∀ (l:List Oper) (i:Nat) (σ:St) (a:Act) (w:World),ops.toList.drop i=l->opsL P ops l K σ->gl N os γ0 σ a w ->
   wpOps P ops Q (List.range' i l.length) a w
 |[],i,σ,a,w,_,h,aR=>by simpa [wpOps] using hQ _ _ _ h aR
 |o::r,i,σ,a,w,hl,h,aR=>by
  have hi:ops[i]?=some o:=by
   have:(ops.toList.drop i)[0]?=some o:=by rw[hl];rfl
   simpa using this
  have hr:ops.toList.drop (i+1)=r:=by
   have:=congrArg List.tail hl;simpa [List.tail_drop] using this
  have cR:o∈ops.toList:=gf (by simpa using hi);rw[dz,List.range'_succ,wpOps_cons];unfold wpOp;simp only[hi];unfold opsL at h;cases hg:o.guard with
  |none =>
   simp only[hg]at h;have hw:Region.wanted o (yielded ops a.tmps)=true:=by simp[Region.wanted,hg]
   rw[if_pos hw];left;exact vR h aR (hd o cR) (λσ' a' w' hK eP=>zB hd hQ r (i+1) σ' a' w' hr hK eP)
  |some jw =>
   obtain⟨j,want⟩:=jw;simp only[hg]at h;cases ee:(ops[j]?).bind (·.dst) with
   |none=>simp[ee]at h
   |some d =>
    simp only[ee]at h;split at h
    ·rename_i b he;obtain⟨iN,a6,γ,rfl,ha,hs,hf⟩:=aR;have jd:=hs.ax d;rw[he,ha]at jd;have hv:=jd.cH;have hy:yielded ops a.tmps j=some b:=by
      unfold yielded;rw[ee];have:a.tmps[d]?=some (.bool b):=by
       rw[eN]at hv;cases hx:a.tmps[d]? with
       |none=>rw[hx]at hv;simp[Go.undef]at hv
       |some y=>rw[hx]at hv;simp at hv;rw[hv]
      simp[this]
     by_cases gR:b=want
     ·have hw:Region.wanted o (yielded ops a.tmps)=true:=by simp[Region.wanted,hg,hy,gR]
      rw[if_pos hw];left;exact vR (h.1 gR) ⟨iN,a6,γ,rfl,ha,hs,hf⟩ (hd o cR) (λσ' a' w' hK eP=>zB hd hQ r (i+1) σ' a' w' hr hK eP)
     ·have hw:Region.wanted o (yielded ops a.tmps)=false:=by simp[Region.wanted,hg,hy,gR]
      rw[if_neg (by rw[hw];simp)];refine zB hd hQ r (i+1) _ _ _ hr (h.2 gR) ⟨by rw[put_defers];exact iN,by rw[rW];exact a6,{ γ with tmps:=(a.put o.dst Go.undef).tmps },rfl,rfl,pH hs ha (λd h=>by rw[a6];exact hd o cR d h) (.lit _),?_⟩;rw[pI];exact hf.put _
    ·rename_i vs he;obtain⟨iN,a6,γ,rfl,ha,hs,hf⟩:=aR;have jd:=hs.ax d;rw[he,ha]at jd;have hv:=jd.cH;have hy:yielded ops a.tmps j=none:=by
      unfold yielded;rw[ee];rw[eN]at hv;cases hx:a.tmps[d]? with
      |none=>simp[hx]
      |some y=>rw[hx]at hv;simp at hv;subst hv;simp[hx]
     have hw:Region.wanted o (yielded ops a.tmps)=false:=by simp[Region.wanted,hg,hy]
     rw[if_neg (by rw[hw];simp)];refine zB hd hQ r (i+1) _ _ _ hr h.2 ⟨by rw[put_defers];exact iN,by rw[rW];exact a6,{ γ with tmps:=(a.put o.dst Go.undef).tmps },rfl,rfl,pH hs ha (λd h=>by rw[a6];exact hd o cR d h) (.lit _),?_⟩;rw[pI];exact hf.put _
    ·exact h.elim
end Go.Am
namespace Go.Am
variable {P:Program} {N n0:Nat} {Q:Exit->St->Prop} {σ:St}
def K8{c:Code}{Q':Exit->St->Prop}(h:W P N n0 c Q σ)(hq:∀ e s,Q e s->Q' e s):W P N n0 c Q' σ :=
 λos γ0 a w hn aR=>wp_mono (h os γ0 a w hn aR) (λ_ _ _ ⟨σ',h1,h2⟩=>⟨σ',hq _ _ h1,h2⟩)
def zC(h:Q .normal σ):W P N n0 .skip Q σ:=λ_ _ _ _ _ aR=>wp_skip ⟨σ,h,aR⟩
def WN{l:Nat}(h:Q .normal σ):W P N n0 (.label l) Q σ:=λ_ _ _ _ _ aR=>wp_label ⟨σ,h,aR⟩
def WO{id:Nat}(h:Q (.exit id) σ):W P N n0 (.exit id) Q σ:=λ_ _ _ _ _ aR=>wp_exit ⟨σ,h,aR⟩
def WQ(h:Q .ret σ):W P N n0 .ret Q σ:=λ_ _ _ _ _ aR=>wp_ret ⟨σ,h,aR⟩
def WR(P:Program)(N n0:Nat)(y:Code)(Q:Exit->St->Prop):Exit->St->Prop
 |.normal,s=>W P N n0 y Q s
 |e,s=>Q e s
def E5{x y:Code}(h:W P N n0 x (WR P N n0 y Q) σ):W P N n0 (.seq x y) Q σ:=by
 intro os γ0 a w hn aR;refine wp_seq (wp_mono (h os γ0 a w hn aR) ?_);rintro e a' w'⟨σ',h1,h2⟩;cases e with
 |normal=>exact h1 os γ0 a' w' hn h2
 |exit id=>exact⟨σ',h1,h2⟩
 |goto l=>exact⟨σ',h1,h2⟩
 |ret=>exact⟨σ',h1,h2⟩
 |panic c=>exact⟨σ',h1,h2⟩
 |outgrown=>exact⟨σ',h1,h2⟩
def zD{c:Operand}{x y:Code}{t:Bool}(hc:ev σ c=.lit (.bool t))(ht:t=true->W P N n0 x Q σ)(hf:t=false->W P N n0 y Q σ):W P N n0 (.cond c x y) Q σ:=by
 intro os γ0 a w hn aR;have a9:a.eval c=.bool t:=by
  obtain⟨_,_,γ,rfl,ha,hs,_⟩:=aR;have:=sc hs ha c;rw[hc]at this;exact this.cH
 exact wp_cond_split a9 (λh=>ht h os γ0 a w hn aR) (λh=>hf h os γ0 a w hn aR)
def BT(id:Nat)(Q:Exit->St->Prop):Exit->St->Prop
 |.exit vX,s=>if vX=id then Q .normal s else Q (.exit vX) s
 |e,s=>Q e s
def Wn{id:Nat}{c:Code}(h:W P N n0 c (BT id Q) σ):W P N n0 (.block id c) Q σ:=by
 intro os γ0 a w hn aR;refine wp_block (wp_mono (h os γ0 a w hn aR) ?_);rintro e a' w'⟨σ',h1,h2⟩;cases e with
 |exit vX =>
  simp only[BT]at h1;simp only[Exit.inBlock];split
  ·rename_i he;rw[if_pos he]at h1;exact⟨σ',h1,h2⟩
  ·rename_i he;rw[if_neg he]at h1;exact⟨σ',h1,h2⟩
 |normal=>exact⟨σ',h1,h2⟩
 |goto l=>exact⟨σ',h1,h2⟩
 |ret=>exact⟨σ',h1,h2⟩
 |panic c=>exact⟨σ',h1,h2⟩
 |outgrown=>exact⟨σ',h1,h2⟩
def fS(N:Nat)(ops:Array Oper):Bool:=ops.toList.all λo=>match o.dst with|some d=>decide (d<N)|none=>true
def pK{ops:Array Oper}(h:fS N ops=true):∀ o∈ops.toList,∀ d,o.dst=some d->d<N:=by
 intro o ho d hd;unfold fS at h;rw[gz]at h;have:=h o ho;simp[hd]at this;exact this
def JL{id:Nat}{ops:Array Oper}(hd:fS N ops=true)(h:opsL P ops ops.toList (Q .normal) σ):W P N n0 (.region id ops false) Q σ:=by
 intro os γ0 a w _ aR;refine wp_region ?_;have:=zB (P:=P) (N:=N) (os:=os) (γ0:=γ0) (ops:=ops) (pK hd) (K:=Q .normal) (Q:=λe a' w'=>∃ σ',Q e σ'/\gl N os γ0 σ' a' w') (λσ' a' w' hK eP=>⟨σ',hK,eP⟩)
  ops.toList 0 σ a w rfl h aR
 rw[List.range_eq_range'];simpa using this
def gl.drawn{os:List Ob}{γ0:Cx}{a:Act}{w:World}(h:gl N os γ0 σ a w):gl N os γ0 σ a { w with drawn:=w.drawn+1 }:=by
 obtain⟨h1,h2,γ,rfl,h3,h4,h5⟩:=h;exact⟨h1,h2,{ γ with w:={ γ.w with drawn:=γ.w.drawn+1 } },rfl,h3,h4.Ft rfl,h5.Ft rfl rfl rfl rfl⟩
def aB(n0:Nat)(σ σ':St):Prop:=∀ (os:List Ob) (γ0 γ:Cx),os.length=n0->bk σ γ->Fr os γ0 σ.aa γ->∃ aD,aD.w=γ.w/\aD.tmps=γ.tmps/\bk σ' aD/\Fr os γ0 σ'.aa aD
def bP{c:Code}{σ':St}(h:aB n0 σ σ')(hw:W P N n0 c Q σ'):W P N n0 c Q σ:=by
 intro os γ0 a w hn aR;obtain⟨h1,h2,γ,rfl,h3,h4,h5⟩:=aR;obtain⟨aD,e1,e2,e3,e4⟩:=h os γ0 γ hn h4 h5;exact hw os γ0 a γ.w hn ⟨h1,h2,aD,e1,e2.trans h3,e3,e4⟩
def aB.forget{e:Nat->AV}(h:∀ k,e k=.undef\/e k=σ.env k):aB n0 σ ⟨e,σ.aa⟩:=by
 intro os γ0 γ _ hs hf;refine⟨γ,rfl,rfl,⟨λk=>?_,hs.ei,hs.inj,hs.nz,hs.gD⟩,hf⟩;rcases h k with h|h
 ·show az _ _ _ _ (e k) _;rw[h];exact .undef _
 ·show az _ _ _ _ (e k) _;rw[h];exact hs.ax k
def aB.select(ak:List Nat)(snap:Bool)(bJ:List Ob)(e:Nat->AV)(cu:ak.Nodup)(cy:bJ.length=ak.length)(nm:∀ (j:Nat) o,bJ[j]?=some o->o=.gone\/σ.aa[ak.getD j 0]?=some (bH (bm σ.aa.length ak) o))(fl:∀ i∈ak,i<σ.aa.length)(hn:n0<=ak.length)(cP:∀ i,i<n0->ak.getD i 0=i)(he:∀ k,e k=.undef\/aE σ (λid=>∃ j,j<ak.length/\ak.getD j 0=id/\bJ[j]?≠some .gone) (bm σ.aa.length ak) snap (e k) (σ.env k)):aB n0 σ ⟨e,bJ⟩:=by
 intro os γ0 γ tj hs hf;obtain⟨aD,h1,h2,h3,h4⟩:=hs.select ak snap bJ cu cy nm fl e γ.tmps (λk=>(he k).imp id λh=>⟨_,h,hs.ax k⟩);exact⟨aD,h1,h2,h3,hf.select I6 cy (λi hi=>cP i I6) h1 h4⟩
def aB.trans{σ1 σ2:St}(h:aB n0 σ σ1)(k:aB n0 σ1 σ2):aB n0 σ σ2:=by
 intro os γ0 γ tj hs hf;obtain⟨γ1,a1,a2,a3,a4⟩:=h os γ0 γ tj hs hf;obtain⟨Fu,b1,b2,b3,b4⟩:=k os γ0 γ1 tj a3 a4;exact⟨Fu,b1.trans a1,b2.trans a2,b3,b4⟩
def aB.nil(d sz:Nat)(h:σ.env d=.lit (.slice none 0 0))(h0:0<sz):aB n0 σ ⟨iv σ.env d (.ref σ.aa.length sz 0 0),σ.aa++[.arr sz []]⟩:=by
 intro os γ0 γ _ hs hf;have hp:=hs.we h0;refine⟨{ γ with blk:=cM γ.blk σ.aa.length none },rfl,rfl,⟨λk=>?_,hp.ei,hp.inj,hp.nz,hp.gD⟩,hf.trans (Fr.we _ _ _)⟩;simp only[iv];by_cases hk:k=d
 ·subst hk;rw[if_pos rfl];have:=hs.ax k;rw[h]at this;rw[this.cH];exact .ll _ _ (List.getElem?_concat_length ..) (by simp[cM])
 ·rw[if_neg hk];exact hp.ax k
def dQ(σ:St)(P:Program):List ResultVar->(List AV->Prop)->Prop
 |[],K=>K []
 |.tmp t::r,K=>dQ σ P r λvs=>K (σ.env t::vs)
 |.cell a t::r,K =>
  (ty P t).kind≠99 /\
  match σ.env a with
  |.ptr id rr c =>
   match rowOf σ id rr with
   |some row=>ld (ty P t) row c λv=>dQ σ P r λvs=>K (v::vs)
   |none=>False
  |_=>False
def dK:List AV->AV
 |[v]=>v
 |vs=>.bO vs
def Cb{γ:Cx}(hs:bk σ γ):∀ (rs:List ResultVar) (K:List AV->Prop),dQ σ P rs K ->
  ∃ vs a7,K vs/\(rs.mapM λ(r:ResultVar)=>match r with|.tmp t=>(pure (γ.tmps.getD t Go.undef):Sem Value)|.cell a t=>do loadVar t (← asAddr (γ.tmps.getD a Go.undef))).run P γ.w=.ok a7 γ.w /\
   a7.length=vs.length/\vs.length=rs.length/\∀ (j:Nat) v,vs[j]?=some v->az σ.aa γ.w γ.Z γ.blk v (a7.getD j Go.undef)
 |[],K,h=>⟨[],[],h,Jd,rfl,rfl,Jd⟩
 |.tmp t::r,K,h=>by
  obtain⟨vs,a7,h1,h2,h3,h4,h5⟩:=Cb hs r _ h;refine⟨_,γ.tmps.getD t Go.undef::a7,h1,?_,by simp[h3],by simp[h4],?_⟩
  ·simp only[List.mapM_cons,Sem.run_bind,Sem.run_pure,Result.andThen_ok,h2]
  ·intro j v hj;cases j with
   |zero=>simp at hj;subst hj;simpa using hs.ax t
   |succ j=>simpa using h5 j v (by simpa using hj)
 |.cell a t::r,K,h=>by
  obtain⟨hk,h⟩:=h;split at h
  ·rename_i id rr c he;have hv:=hs.ax a;rw[he]at hv;split at h
   ·rename_i row aZ;obtain⟨v,cv,l1,l2,l3⟩:=Fq hs hk hv aZ h;obtain⟨vs,a7,h1,h2,h3,h4,h5⟩:=Cb hs r _ l3;obtain⟨b,base,cap,cur,tt,o,hp,_⟩:=B9 hs hv aZ;have eB:(do loadVar t (← asAddr (γ.tmps.getD a Go.undef)):Sem Value).run P γ.w=.ok cv γ.w:=by
     rw[hp]at l1 ⊢;simp only[Instr.loadAt,Instr.sureAddr,Sem.run_bind,Sem.run_pure,Result.andThen_ok]at l1;simp only[asAddr,Sem.run_bind,Sem.run_pure,Result.andThen_ok];exact l1
    refine⟨_,cv::a7,h1,?_,by simp[h3],by simp[h4],?_⟩
    ·simp only[List.mapM_cons];rw[Sem.run_bind,eB];simp only[Result.andThen_ok,Sem.run_bind,h2,Sem.run_pure]
    ·intro j x hj;cases j with
     |zero=>simp at hj;subst hj;simpa using l2
     |succ j=>simpa using h5 j x (by simpa using hj)
   ·exact h.elim
  ·exact h.elim
def mB(n0:Nat)(σ:St)(v res:AV)(bg:List Ob):Prop :=
 ∃ (ak:List Nat) (snap:Bool),ak.Nodup/\bg.length=ak.length/\(∀ (j:Nat) o,bg[j]?=some o->o=.gone\/σ.aa[ak.getD j 0]?=some (bH (bm σ.aa.length ak) o))/\(∀ i∈ak,i<σ.aa.length) /\
  n0<=ak.length/\(∀ i,i<n0->ak.getD i 0=i)/\aE σ (λid=>∃ j,j<ak.length/\ak.getD j 0=id/\bg[j]?≠some .gone) (bm σ.aa.length ak) snap res v
def xM(P:Program)(n0:Nat)(rs:List ResultVar)(res:AV)(bg:List Ob):Exit->St->Prop
 |.normal,s=>dQ s P rs λvs=>mB n0 s (dK vs) res bg
 |.ret,s=>dQ s P rs λvs=>mB n0 s (dK vs) res bg
 |_,_=>False
def an.Fv {f : FuncId} {fn : Func} {c : Code} {args : List AV} {aa : List Ob} {res : AV} {bg : List Ob} (hf : P.funcs[f]? = some fn) (hb : fn.body = some c) (oV : (fn.name == "runtime.NumGoroutine") = false)
  (hN:args.length<=fn.ntmps) (h:W P fn.ntmps aa.length c (xM P aa.length fn.results.toList res bg) ⟨λk=>args.getD k .undef,aa⟩):an P f args aa res bg:=by
 refine⟨⟨fn,hf,oV,by rw[hb];rfl⟩,?_⟩;intro γ a6 hs;refine calls_of_wp hf hb ?_
 let tm:=γ.tmps++Array.replicate (fn.ntmps-γ.tmps.size) Go.undef
 have aR:gl fn.ntmps aa γ ⟨λk=>args.getD k .undef,aa⟩ { tmps:=tm,defers:=[] } γ.w:=by
  refine⟨rfl,by simp[tm];omega,{ γ with tmps:=tm },rfl,rfl,⟨λk=>?_,hs.ei,hs.inj,hs.nz,hs.gD⟩,(Fr.refl _ _).put _⟩;rcases eh k args.length with hk|hk
  ·have:=hs.ax k;have e:tm.getD k Go.undef=γ.tmps.getD k Go.undef:=by
    simp only[tm,eN];rw[Bx I6]
   show az _ _ _ _ _ (tm.getD k Go.undef);rw[e];exact this
  ·have e:args.getD k AV.undef=.undef:=by simp[hk]
   show az _ _ _ _ (args.getD k .undef) _;rw[e];exact .undef _
 refine wp_mono (h aa γ _ γ.w rfl aR) ?_;rintro e a' w'⟨σ',h1,iN,_,aD,rfl,ha,iu,gH⟩;have fin:∀ (K:List AV->Prop),dQ σ' P fn.results.toList K->(∀ vs,K vs->mB aa.length σ' (dK vs) res bg) ->
   a'.defers=[]/\∃ v,(results fn a'.tmps).run P aD.w=.ok v aD.w/\∃ cv iw,Ending.returned v=.returned cv/\iw.w=aD.w/\iw.tmps = #[cv]/\bk ⟨λk=>[res].getD k .undef,bg⟩ iw/\Fr aa γ bg iw:=by
  intro K hK Fw;obtain⟨vs,a7,k1,k2,k3,k4,k5⟩:=Cb iu _ _ hK;obtain⟨ak,snap,r1,r2,r3,r4,r5,r6,r7⟩:=Fw vs k1;refine⟨iN,?_⟩;have eB :∃v,(results fn a'.tmps).run P aD.w=.ok v aD.w/\az σ'.aa aD.w aD.Z aD.blk (dK vs) v:=by
   have hm:(fn.results.mapM λ(r:ResultVar)=>match r with|.tmp t=>(pure (a'.tmps.getD t Go.undef):Sem Value)|.cell a t=>do loadVar t (← asAddr (a'.tmps.getD a Go.undef))).run P aD.w=.ok a7.toArray aD.w:=by
    rw[Array.mapM_eq_mapM_toList,Sem.run_map,<- ha,k2];rfl
   have hr:(results fn a'.tmps).run P aD.w=.ok (if h:a7.toArray.size=1 then a7.toArray[0] else .tuple a7.toArray) aD.w:=by
    unfold results;rw[Sem.run_bind];exact congrArg (λr=>Result.andThen r λ(a:Array Value) w'=>(pure (if h:a.size=1 then a[0] else Value.tuple a):Sem Value).run P w') hm
   rw[hr]
   match vs,a7,k3,k5 with
   |[],[],_,k5=>exact⟨_,rfl,.bO _ _ rfl (λj x hj=>by simp at hj)⟩
   |[v],[cv],_,k5=>exact⟨cv,Jd,by simpa [dK] using k5 0 v rfl⟩
   |v::v'::vs,cv::ny::a7,k3,k5 =>
    refine⟨.tuple (cv::ny::a7).toArray,Jd,.bO _ _ (by simpa using k3) (λj x hj=>?_)⟩;have:=k5 j x hj;simpa [aA,eN] using this
  obtain⟨v,sd,oW⟩:=eB;obtain⟨iw,e1,e2,e3,e4⟩:=iu.select ak snap bg r1 r2 r3 r4 (λk=>[res].getD k .undef) #[v] (λk=>by
   cases k with
   |zero=>exact .inr ⟨_,r7,by simpa using oW⟩
   |succ k=>left;simp)
  exact⟨v,sd,v,iw,rfl,e1,e2,e3,gH.select r5 r2 r6 e1 e4⟩
 cases e with
 |normal=>exact fin _ h1 (λ_ h=>h)
 |ret=>exact fin _ h1 (λ_ h=>h)
 |exit id=>exact h1.elim
 |goto l=>exact h1.elim
 |panic c=>exact h1.elim
 |outgrown=>exact h1.elim
theorem an.aF {f:FuncId} {fn:Func} {c:Code} {args:List AV} {aa:List Ob} {res:AV} {bg:List Ob} (N k:Nat) (rs:List ResultVar) (hf:P.funcs[f]?=some fn) (h:W P N k c (xM P k rs res bg) ⟨fun k=>args.getD k .undef,aa⟩) (hb:fn.body=some c:=by rfl) (oV:(fn.name=="runtime.NumGoroutine")=false:=by rfl) (hN:fn.ntmps=N:=by rfl) (zE:fn.results.toList=rs:=by rfl) (hk:aa.length=k:=by rfl) (hl:args.length<=N:=by simp):an P f args aa res bg:=by
 subst hN;subst zE;subst hk;exact an.Fv hf hb oV hl h
def WS{x y:Code}(h:∀ Q':Exit->St->Prop,(∀ s,W P N n0 y Q s->Q' .normal s)->(∀ e s,e≠.normal->Q e s->Q' e s)->W P N n0 x Q' σ):W P N n0 (.seq x y) Q σ :=
 E5 (h _ (λ_ h=>h) (λe s he hq=>by cases e<;>first|exact absurd rfl he|exact hq))
def tk{id:Nat}{ops:Array Oper}{y:Code}(hd:fS N ops=true)(h:∀ K:St->Prop,(∀ s,W P N n0 y Q s->K s)->opsL P ops ops.toList K σ):W P N n0 (.seq (.region id ops false) y) Q σ :=
 E5 (JL hd (h _ (λ_ h=>h)))
def K9{ops:Array Oper}{K:St->Prop}:opsL P ops [] K σ=K σ:=rfl
def K'{ops:Array Oper}{o:Oper}{r:List Oper}{K:St->Prop}:opsL P ops (o::r) K σ =
  match o.guard with
  |none=>a8 P o σ (opsL P ops r K)
  |some (j,want) =>
   match (ops[j]?).bind (·.dst) with
   |none=>False
   |some d =>
    match σ.env d with
    |.lit (.bool b)=>mH P o (opsL P ops r K) b want σ
    |.lit (.tuple vs)=>vs = #[]/\opsL P ops r K (σ.put o.dst (.lit (.tuple #[])))
    |_=>False:=rfl
def La{o:Oper}{K:St->Prop}:mH P o K true true σ=a8 P o σ K:=by simp[mH]
def Lb{o:Oper}{K:St->Prop}:mH P o K false false σ=a8 P o σ K:=by simp[mH]
def Le{o:Oper}{K:St->Prop}:mH P o K true false σ=K (σ.put o.dst (.lit (.tuple #[]))):=by simp[mH]
def Lf{o:Oper}{K:St->Prop}:mH P o K false true σ=K (σ.put o.dst (.lit (.tuple #[]))):=by simp[mH]
def WT{o:Oper}{K:St->Prop}{b want:Bool}(h1:b=true->mH P o K true want σ)(h2:b=false->mH P o K false want σ):mH P o K b want σ:=by
 cases b
 ·exact h2 rfl
 ·exact h1 rfl
def WU(ds:List Nat)(e:Nat->AV):Nat->AV:=λk=>if ds.contains k then .undef else e k
def Cc{ds:List Nat}{e:Nat->AV}{k:Nat}:WU ds e k=if ds.contains k then .undef else e k:=rfl
def WV(e:Nat->AV)(d:Nat)(v:AV):iv e d v d=v:=by simp[iv]
mutual
def eO:AV->Bool
 |.ref ..=>false
 |.ptr ..=>false
 |.agg cs=>gF cs
 |.bO cs=>gF cs
 |.fn _ cs=>gF cs
 |.gm _ v=>eO v
 |.fT _=>false
 |_=>true
def gF:List AV->Bool
 |[]=>true
 |v::vs=>eO v&&gF vs
end
mutual
def vW(ρ:Nat->Nat):∀ (v:AV),eO v=true->aX ρ v=v
 |.undef,_=>rfl
 |.lit _,_=>rfl
 |.tree ..,_=>rfl
 |.cq _,_=>rfl
 |.ref ..,h=>by simp[eO]at h
 |.ptr ..,h=>by simp[eO]at h
 |.agg cs,h=>by simp only[eO]at h;simp only[aX];rw[xC ρ cs h]
 |.bO cs,h=>by simp only[eO]at h;simp only[aX];rw[xC ρ cs h]
 |.fn f cs,h=>by simp only[eO]at h;simp only[aX];rw[xC ρ cs h]
 |.gm t v,h=>by simp only[eO]at h;simp only[aX];rw[vW ρ v h]
 |.fT _,h=>by simp[eO]at h
def xC(ρ:Nat->Nat):∀ (l:List AV),gF l=true->nh ρ l=l
 |[],_=>rfl
 |v::vs,h=>by
  simp only[gF,ba]at h;simp only[nh];rw[vW ρ v h.1,xC ρ vs h.2]
end
def WW{l:List AV}(h:gF l=true){j:Nat}{x:AV}(hx:l[j]?=some x):eO x=true:=by
 induction l generalizing j with
 |nil=>simp at hx
 |cons v l ih =>
  simp only[gF,ba]at h;cases j with
  |zero=>simp at hx;subst hx;exact h.1
  |succ j=>exact ih h.2 (by simpa using hx)
def bU{f:FuncId}{args:List AV}{dst:Option Tmp}{K:St->Prop}{res:AV}(h:an P f args [] res [])(ha:gF args=true)(hr:eO res=true)(hK:K (σ.put dst res)):oQ P f args dst K σ:=by
 refine⟨[],false,args,[],res,[],h,⟨List.nodup_nil,rfl,Jd,rfl,?_,Jd⟩,?_⟩
 ·intro j c d hc hd;rw[hc]at hd;simp at hd;subst hd;have:=aE.same (σ:=σ) (kp:=(·∈([]:List Nat))) (ρ:=bm σ.aa.length []) (snap:=false) c;rw[vW _ c (WW ha hc)]at this;exact this
 ·rw[vW _ _ hr];simpa [dY] using hK
def BW{v:AV}(hr:eO v=true):mB 0 σ v v []:=by
 refine⟨[],false,List.nodup_nil,rfl,Jd,Jd,aG _,Jd,?_⟩;have:=aE.same (σ:=σ) (kp:=λid=>∃ j,j<([]:List Nat).length/\([]:List Nat).getD j 0=id/\([]:List Ob)[j]?≠some .gone) (ρ:=bm σ.aa.length []) (snap:=false) v;rw[vW _ _ hr]at this;exact this
end Go.Am
namespace Go.Am
variable {P:Program}
def cls:Op->Nat
 |.move _|.assign _|.pick ..|.convert ..|.binOp ..|.unOp ..|.makeFunc ..|.makeInterface ..|.typeAssert ..|.field ..|.extract ..|.build ..|.index ..=>0
 |.call { callee:=.builtin .min,.. }|.call { callee:=.builtin .max,.. }=>0
 |.nilCheck _|.fieldAddr ..|.indexAddr ..|.slice ..=>1
 |.call { callee:=.builtin .len,.. }=>1
 |.load ..|.lookup ..=>2
 |.alloc _|.box ..|.makeSlice ..|.buildSlice ..|.makeMap ..=>3
 |.store ..=>4
 |_=>5
def qC:Ob->Ob->Prop
 |.var _,.var _=>True
 |.arr s _,.arr s' _=>s=s'
 |.mp a L,.mp b M=>a=b/\L=M
 |.gone,.gone=>True
 |_,_=>False
def vS(o:Ob):qC o o:=by cases o<;>simp[qC]
def jY(c:Nat)(a b:List Ob):Prop :=
 if c<=2 then b=a
 else if c=3 then ∀ (id:Nat),id<a.length->b[id]?=a[id]?
 else if c=4 then b.length=a.length/\∀ (id:Nat) o o',a[id]?=some o->b[id]?=some o'->qC o o'
 else True
def WX(c:Nat)(h:c<=2)(a:List Ob):jY c a a:=by simp[jY,h]
def Cd(a:List Ob)(o:Ob):jY 3 a (a++[o]):=by
 simp only[jY];intro id h;exact cd h
def WY(σ:St)(id r:Nat)(row:List AV):jY 4 σ.aa (mC σ id r row).aa:=by
 simp only[jY];rw[if_neg aab,if_neg aab,if_pos trivial];have key:∀ (x y:Ob),σ.aa[id]?=some x->qC x y->(σ.aa.set id y).length=σ.aa.length/\∀ (i:Nat) o o',σ.aa[i]?=some o->(σ.aa.set id y)[i]?=some o'->qC o o':=by
  intro x y hx pQ;refine⟨Jd,λi o o' ho cL=>?_⟩;rw[List.getElem?_set]at cL;split at cL
  ·rename_i e;subst e;split at cL
   ·simp at cL;subst cL;rw[hx]at ho;simp at ho;subst ho;exact pQ
   ·simp at cL
  ·rw[ho]at cL;simp at cL;subst cL;exact vS o
 unfold mC;split
 ·rename_i cells h;exact key _ _ h trivial
 ·rename_i sz rows h;exact key _ _ h rfl
 ·exact⟨rfl,λi o o' ho cL=>by rw[ho]at cL;simp at cL;subst cL;exact vS o⟩
def qM:AV->Option Nat
 |.ref id _ _ _=>some id
 |.ptr id _ _=>some id
 |.fT id=>some id
 |_=>none
def iO(c:Nat)(a b:Option Ob):Prop :=
 if c=0 then True else if c=1 then ∀ o,a=some o->∃ o',b=some o'/\qC o o' else ∀ o,a=some o->b=some o
def pR(c:Nat)(l:List Operand)(σ:St)(e2:Nat->AV)(ob:List Ob):Prop :=
 (∀ x∈l,ev ⟨e2,ob⟩ x=ev σ x)/\(∀ x∈l,∀ id,qM (ev σ x)=some id->iO c σ.aa[id]? ob[id]?)
def Fx(P:Program)(o:Oper)(σ:St)(K:St->Prop)(c:Nat)(l:List Operand):Prop :=
 ∃ v os,jY c σ.aa os/\K ((⟨σ.env,os⟩:St).put o.dst v)/\∀ e2 ob dD (K2:St->Prop),pR c l σ e2 ob->(if c<=2 then dD=ob else ob=σ.aa/\dD=os)->K2 ((⟨e2,dD⟩:St).put o.dst v)->cf P o ⟨e2,ob⟩ K2
theorem dA{o:Oper}{σ:St}{K:St->Prop}{c:Nat}{l:List Operand}{v:AV}(hW:K (σ.put o.dst v))(h:∀ e2 ob (K2:St->Prop),pR c l σ e2 ob->K2 ((⟨e2,ob⟩:St).put o.dst v)->cf P o ⟨e2,ob⟩ K2)(hc:c<=2:=by simp[cls]):Fx P o σ K c l :=
 ⟨v,σ.aa,WX _ hc _,hW,fun e2 ob dD K2 hx ho fH=>h e2 ob K2 hx (by rw[if_pos hc]at ho;subst ho;exact fH)⟩
def dB{o:Oper}{σ:St}{K:St->Prop}{c:Nat}{l:List Operand}{v:AV}{os:List Ob}(hc:3<=c)(he:jY c σ.aa os)(hW:K ((⟨σ.env,os⟩:St).put o.dst v))(h:∀ e2 (_:List Ob) (K2:St->Prop),pR 0 l σ e2 σ.aa->K2 ((⟨e2,os⟩:St).put o.dst v)->cf P o ⟨e2,σ.aa⟩ K2):Fx P o σ K c l :=
 ⟨v,os,he,hW,λe2 ob dD K2 hx ho fH=>by rw[if_neg I6]at ho;obtain⟨rfl,rfl⟩:=ho;exact h e2 σ.aa K2 ⟨hx.1,λ_ _ _ _=>by simp[iO]⟩ fH⟩
def parts_eq{parts:Array (Nat×Operand)}{σ τ:St}(h:∀ x∈parts.toList.map (·.2),ev τ x=ev σ x):
  (parts.toList.map λp=>(p.1,ev τ p.2))=(parts.toList.map λp=>(p.1,ev σ p.2))/\(parts.toList.all λp=>(cellsOf (ev τ p.2)).all b7)=(parts.toList.all λp=>(cellsOf (ev σ p.2)).all b7):=by
 have hp:(parts.toList.map λp=>(p.1,ev τ p.2))=(parts.toList.map λp=>(p.1,ev σ p.2)):=kG λp hp=>by rw[h _ (Bw hp)]
 exact⟨hp,by simpa [List.all_map,Function.comp_def] using congrArg (·.all λq=>(cellsOf q.2).all b7) hp⟩
def Jv{t:Ty}{cells:List AV}{c:Nat}{K:AV->Prop}(h:ld t cells c K):∃v,K v/\∀ K2:AV->Prop,K2 v->ld t cells c K2:=by
 unfold ld at h ⊢;split at h
 ·exact⟨_,h.2,λK2 hK=>by simp_all⟩
 ·split at h<;>first|exact h.elim|exact⟨_,h,λK2 hK=>by simp_all⟩
def WZ{op:BinOp}{k:IntKind}{p q:Int}{K:Value->Prop}(h:fG op k p q K):∃v,K v/\∀ K2:Value->Prop,K2 v->fG op k p q K2:=by
 unfold fG at h ⊢;split at h<;>first|exact⟨_,h.2,λK2 h'=>⟨h.1,h'⟩⟩|exact⟨_,h,λK2 h=>h⟩|exact h.elim
def W0{σ:St}{e:Nat->AV}{ob:List Ob}{id r:Nat}{row:List AV}(h:∀ o,σ.aa[id]?=some o->ob[id]?=some o)(hr:rowOf σ id r=some row):rowOf ⟨e,ob⟩ id r=some row:=by
 unfold rowOf at hr ⊢;cases ho:σ.aa[id]?<;>simp_all
def W1{σ:St}{e:Nat->AV}{ob:List Ob}{v:AV}{q:Nat×Nat×List (List Int×AV)}(h:∀ id,v=.fT id->∀ o,σ.aa[id]?=some o->ob[id]?=some o)(hm:kK σ v=some q):kK ⟨e,ob⟩ v=some q:=by
 unfold kK at hm ⊢;split at hm
 ·rename_i id;split at hm
  ·rename_i ag L ho;have:=h id rfl _ ho;simp only[this];exact hm
  ·cases hm
 ·cases hm
def Lh{o:Oper}{σ:St}{K:St->Prop}(hW:cf P o σ K):Fx P o σ K (cls o.op) o.op.operands.toList:=by
 obtain⟨dst,op,type,pos,after,guard⟩:=o;unfold cf at hW;cases op
 case call c =>
  obtain⟨callee,args,argTypes⟩:=c;cases callee<;>try exact hW.elim
  rename_i b;cases b<;>try exact hW.elim
  all_goals simp only at hW
  case append =>
   (repeat' split at hW)<;>try exact hW.elim
   rename_i s x t t' cZ jK _ _ _ _ z pre σ1 sz src hk hz zF qN;have uG:σ1=⟨σ.env,σ1.aa⟩/\∀ e,oR ⟨e,σ.aa⟩ (ty P (ty P t).elem).size (ev σ s)=some (pre,⟨e,σ1.aa⟩):=by
    unfold oR at zF ⊢;(repeat' split at zF)<;>simp_all
    all_goals obtain⟨rfl,rfl⟩:=zF;simp
   refine dB (os:=σ1.aa++[.arr sz (pre++src)]) (by simp[cls]) trivial (by have:=hW.2;rw[uG.1]at this;exact this) λe2 ob K2 hx fH=>?_;have jc:mF ⟨e2,σ.aa⟩ (ev σ x)=some (sz,src):=qN;unfold cf;simp[pR,Op.operands,Call.operands,cZ]at hx;simp only[cZ,jK,hx.1.1,hx.1.2,hk,hz,uG.2,jc];exact⟨hW.1,fH⟩
  case copy =>
   (repeat' split at hW)<;>try exact hW.elim
   rename_i cZ jK _ _ id _ _ _ _ src he qN _ _ _ ho;refine dB (by simp[cls]) trivial hW.2 λe2 ob K2 hx fH=>?_;have jc:mF ⟨e2,σ.aa⟩ _=_:=qN;unfold cf;simp[pR,Op.operands,Call.operands,cZ]at hx;simp only[cZ,jK,hx.1.1,hx.1.2,he,jc,ho];exact⟨hW.1,fH⟩
  case clear =>
   (repeat' split at hW)<;>try exact hW.elim
   rename_i cZ jK _ _ id _ _ _ _ he hz _ _ _ ho;refine dB (by simp[cls]) trivial hW.2 λe2 ob K2 hx fH=>?_;unfold cf;simp[pR,Op.operands,Call.operands,cZ]at hx;simp only[cZ,jK,hx,he,hz,ho];exact⟨hW.1,fH⟩
  all_goals(repeat' split at hW)<;>first|exact hW.elim|exact hW.2.elim|refine dA hW ?_|refine dA hW.2 ?_|refine dA hW.2.2 ?_
  all_goals
   intro e2 ob K2 hx fH;unfold cf;simp[pR,Op.operands,Call.operands,qM,iO,cls, *]at hx ⊢;first|done|(simp_all;done)|(obtain⟨_,o',_,hk⟩:=hx;cases o'<;>simp_all [qC];done)
 case load t x =>
  simp only at hW;obtain⟨hk,hW⟩:=hW;(repeat' split at hW)<;>try exact hW.elim
  all_goals
   obtain⟨v,hK,hl⟩:=Jv hW;refine dA hK λe2 ob K2 hx fH=>?_;unfold cf;simp[pR,Op.operands,qM,iO,cls, *]at hx;first|simp only[hx.1,W0 hx.2 ‹rowOf _ _ _=_›]|simp only[hx]
   exact⟨hk,hl _ fH⟩
 case store t x y =>
  simp only at hW;obtain⟨hk,hW⟩:=hW;(repeat' split at hW)<;>try exact hW.elim
  rename_i id r c he _ row aZ;have uG:∀ row,mC σ id r row=⟨σ.env,(mC σ id r row).aa⟩/\∀ e,mC ⟨e,σ.aa⟩ id r row=⟨e,(mC σ id r row).aa⟩:=by
   intro row;unfold mC;simp only;split<;>simp_all
  refine dB (by simp[cls]) (WY _ _ _ _) (by have:=hW.2;rw[(uG _).1]at this;exact this) λe2 ob K2 hx fH=>?_;have hJ:rowOf ⟨e2,σ.aa⟩ id r=some row:=aZ;unfold cf;simp only[hx.1 x (by simp[Op.operands]),hx.1 y (by simp[Op.operands]),he,hJ];rw[(uG _).2];exact⟨hk,hW.1,fH⟩
 case build t parts =>
  simp only at hW;(repeat' split at hW)<;>first|exact hW.elim|refine dA hW.2 ?_
  all_goals
   intro e2 ob K2 hx fH;obtain⟨h1,h2⟩:=parts_eq (parts:=parts) (by simpa [Op.operands] using hx.1);unfold cf;simp only[h1,h2, *];simp[hW.1]
 case buildSlice t _ parts =>
  simp only at hW;(repeat' split at hW)<;>first|exact hW.elim|refine dB (aG 3) (Cd _ _) hW.2 ?_
  intro e2 ob K2 hx fH;obtain⟨h1,h2⟩:=parts_eq (parts:=parts) (by simpa [Op.operands] using hx.1);unfold cf;simp only[h1,h2, *];simp[hW.1]
 case makeFunc fn first captured =>
  simp only at hW;split at hW<;>first|exact hW.elim|refine dA hW.2 λe2 ob K2 hx fH=>?_
  unfold cf;simp only[kG (l:=captured.toList) (f:=ev ⟨e2,ob⟩) (g:=ev σ) λy hy=>hx.1 y (by simp only[Op.operands,xk,List.mem_append];exact .inr hy)];exact⟨hW.1,fH⟩
 case binOp op t x y yt =>
  simp only at hW;split at hW
  ·rename_i k p k' q he hf;obtain⟨hk,hW⟩:=hW;obtain⟨v,hK,hl⟩:=WZ hW;refine dA hK λe2 ob K2 hx fH=>?_;unfold cf;simp[pR,Op.operands,he,hf]at hx;simp only[hx.1.1,hx.1.2];exact⟨hk,hl _ fH⟩
  all_goals(repeat' split at hW)<;>first|exact hW.elim|exact hW.2.elim|refine dA hW.2 ?_
  all_goals
   intro e2 ob K2 hx fH;unfold cf;simp[pR,Op.operands, *]at hx ⊢;first|done|(simp_all;done)
 case slice t x lo hi mx =>
  simp only at hW;obtain⟨hk,dO,rfl,hW⟩:=hW;cases lo<;>cases hi<;>simp only[fR,Option.map_none]at hW;all_goals(repeat' split at hW)<;>first|exact hW.elim|exact hW.2.elim|exact hW.2.2.elim|refine dA hW.2 ?_|refine dA hW.2.2 ?_|refine dA hW.2.2.2 ?_
  all_goals
   intro e2 ob K2 hx fH;unfold cf;simp only[cT.injEq]at *;simp[pR,Op.operands,qM,iO,cls, *]at hx ⊢;first|done|(simp_all;done)|(obtain⟨_,o',_,hk⟩:=hx;cases o'<;>simp_all [qC];done)|(obtain⟨_,⟨o',_,hk⟩,_⟩:=hx;cases o'<;>simp_all [qC];done)|trace_state
 case makeMap t r =>
  simp only at hW;obtain⟨⟨rfl,hk⟩,hK⟩:=hW;refine dB (aG 3) (Cd _ _) hK λe2 ob K2 hx fH=>?_;unfold cf;exact⟨⟨rfl,hk⟩,fH⟩
 case lookup t x i ok =>
  simp only at hW;split at hW
  ·rename_i ag l id g7 L z gT nA l7;refine dA hW.2 λe2 ob K2 hx fH=>?_;have h1:=hx.1 x (by simp[Op.operands]);have h2:=hx.1 i (by simp[Op.operands]);have h3:kK ⟨e2,ob⟩ (ev σ x)=some (id,g7,L):=W1 (λvX cP o ho=>by
    have:=hx.2 x (by simp[Op.operands]) vX (by rw[cP];rfl);unfold iO at this;simp[cls]at this;exact this o ho) nA
   unfold cf;simp only[h1,h2,gT,h3,l7];exact⟨hW.1,fH⟩
  ·exact hW.elim
 case mapUpdate t m k x =>
  simp only at hW;split at hW
  ·rename_i gT nA;obtain⟨nB,zG⟩:=hW;refine dB (v:=.undef) (os:=_) (by simp[cls]) trivial zG λe2 ob K2 hx fH=>?_;have h1:=hx.1 m (by simp[Op.operands]);have h2:=hx.1 k (by simp[Op.operands]);have h3:=hx.1 x (by simp[Op.operands]);have h4:kK ⟨e2,σ.aa⟩ (ev σ m)=_:=nA;unfold cf;simp only[h1,h2,h3,gT,h4];exact⟨nB,fH⟩
  ·exact hW.elim
 case mapEntry t m k =>
  simp only at hW;split at hW
  ·rename_i gT nA l7;obtain⟨nB,zG⟩:=hW;refine dB (v:=_) (os:=_) (by simp[cls]) trivial zG λe2 ob K2 hx fH=>?_;have h1:=hx.1 m (by simp[Op.operands]);have h2:=hx.1 k (by simp[Op.operands]);have h4:kK ⟨e2,σ.aa⟩ (ev σ m)=_:=nA;unfold cf;simp only[h1,h2,gT,h4,l7];exact⟨nB,fH⟩
  ·exact hW.elim
 case entryStore t m s x =>
  simp only at hW;split at hW
  ·rename_i hs nA;obtain⟨nB,zG⟩:=hW;refine dB (v:=.undef) (os:=_) (by simp[cls]) trivial zG λe2 ob K2 hx fH=>?_;have h1:=hx.1 m (by simp[Op.operands]);have h2:=hx.1 s (by simp[Op.operands]);have h3:=hx.1 x (by simp[Op.operands]);have h4:kK ⟨e2,σ.aa⟩ (ev σ m)=_:=nA;unfold cf;simp only[h1,h2,h3,hs,h4];exact⟨nB,fH⟩
  ·exact hW.elim
 all_goals(try simp only at hW);(try exact hW.elim)
 all_goals(repeat' split at hW)<;>first|exact hW.elim|exact hW.2.elim|exact hW.2.2.elim|refine dA hW ?_|refine dA hW.2 ?_|refine dA hW.2.2 ?_|refine dA hW.2.2.2 ?_|refine dB (aG 3) (Cd _ _) hW.2 ?_|refine dB (aG 3) (Cd _ _) hW.2.1 ?_
 all_goals
  intro e2 ob K2 hx fH;unfold cf;simp[pR,Op.operands,qM,iO,cls,-gz, *]at hx ⊢;first|done|(simp_all;done)|(obtain⟨_,rfl,_⟩:=hW;simp_all;done)|(obtain⟨_,o',_,hk⟩:=hx;cases o'<;>simp_all [qC];done)
def VZ{o:Oper}{σ:St}{K:St->Prop}(hW:cf P o σ K):
  ∃ v os,jY (cls o.op) σ.aa os/\K ((⟨σ.env,os⟩:St).put o.dst v)/\∀ (e2:Nat->AV) (K2:St->Prop),(∀ x∈o.op.operands.toList,ev ⟨e2,σ.aa⟩ x=ev σ x)->K2 ((⟨e2,os⟩:St).put o.dst v)->cf P o ⟨e2,σ.aa⟩ K2:=by
 obtain⟨v,os,h1,h2,h3⟩:=Lh hW;refine⟨v,os,h1,h2,λe2 K2 hx hK=>h3 e2 _ os K2 ⟨hx,λ_ _ _ _=>?_⟩ ?_ hK⟩
 ·unfold iO;(repeat' split)<;>first|trivial|exact λo ho=>ho|exact λo ho=>⟨o,ho,vS o⟩
 ·split
  ·rename_i hc;simpa [jY,hc] using h1
  ·exact⟨rfl,rfl⟩
def Jw{o:Oper}{σ:St}{K:St->Prop}(hc:cls o.op<=2)(hW:cf P o σ K):
  ∃ v,K (σ.put o.dst v)/\∀ (σ2:St) (K2:St->Prop),(∀ x∈o.op.operands.toList,ev σ2 x=ev σ x)->(∀ x∈o.op.operands.toList,∀ id,qM (ev σ x)=some id->iO (cls o.op) σ.aa[id]? σ2.aa[id]?) ->
   K2 (σ2.put o.dst v)->cf P o σ2 K2:=by
 obtain⟨v,os,h1,h2,h3⟩:=Lh hW;simp only[jY,hc,if_true]at h1 h3;subst h1;exact⟨v,h2,λσ2 K2 hx ho hK=>h3 σ2.env σ2.aa _ K2 ⟨hx,ho⟩ rfl hK⟩
end Go.Am

