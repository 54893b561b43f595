import Derived.Test.YtfoopmojjjpapaaGreatX04
set_option linter.all false
set_option maxHeartbeats 0
set_option maxRecDepth 20000
open Bool renaming and_eq_true→aZ
open List renaming mem_cons→bj,mem_of_getElem?→gk,getElem?_map→b9,getElem?_cons_zero→uW,getElem?_append_left→eB,getElem?_set_ne→gV,getElem?_cons_succ→rW,getElem?_append_right→gX,length_cons→dt,eq_nil_of_length_eq_zero→AK,getElem?_eq_some_iff→aR,getD_eq_getElem?_getD→aB,mem_map_of_mem→Cm,length_map→fW,mem_map→b8,all_eq_true→gH,nodup_nil→Iu,map_congr_left→tL
open Option renaming map_eq_some_iff→uT,some→cm,map_some→gY
open Nat renaming lt_or_ge→dE,le_refl→bb
open Array renaming toList_append→AJ,getD_eq_getD_getElem?→ek,getElem?_append_left→EX,getElem?_toList→Cn,getElem?_map→NK
namespace Go.Am
variable {P:Program}
mutual
def bf(ρ:Nat->Nat):AV->AV
 |.ref id sz off len=>.ref (ρ id) sz off len
 |.ptr id r c=>.ptr (ρ id) r c
 |.agg cs=>.agg (o8 ρ cs)
 |.bu cs=>.bu (o8 ρ cs)
 |.fn f cs=>.fn f (o8 ρ cs)
 |.gZ t v=>.gZ t (bf ρ v)
 |.du id=>.du (ρ id)
 |v=>v
def o8(ρ:Nat->Nat):List AV->List AV
 |[]=>[]
 |v::vs=>bf ρ v::o8 ρ vs
end
def wK(ρ:Nat->Nat)(l:List AV):o8 ρ l=l.map (bf ρ):=by
 induction l with
 |nil=>simp[o8]
 |cons v l ih=>simp[o8,ih]
def bH(ρ:Nat->Nat):Ob->Ob
 |.gone=>.gone
 |.var cs=>.var (cs.map (bf ρ))
 |.arr sz rows=>.arr sz (rows.map (·.map (bf ρ)))
 |.mp ag L=>.mp ag (L.map λp=>(p.1,bf ρ p.2))
mutual
def flat:AV->Bool
 |.tree ..=>false
 |.cd _=>false
 |.agg cs=>A9 cs
 |.bu cs=>A9 cs
 |.fn _ cs=>A9 cs
 |.gZ _ v=>flat v
 |_=>true
def A9:List AV->Bool
 |[]=>true
 |v::vs=>flat v&&A9 vs
end
def Ja{l:List AV}(h:A9 l=true):∀ v∈l,flat v=true:=by
 induction l with
 |nil=>intro v hv;simp at hv
 |cons x l ih =>
  simp only[A9,aZ]at h;intro v hv;rcases bj.1 hv with rfl|hv
  ·exact h.1
  ·exact ih h.2 v hv
def CB:Ob->Prop
 |.gone=>True
 |.var cs=>∀ v∈cs,flat v=true
 |.arr _ rows=>∀ row∈rows,∀ v∈row,flat v=true
 |.mp _ L=>∀ p∈L,flat p.2=true
def aw.acG{os:List Ob}{w:World}{Z Z':Nat->Prop}{blk:fX}{v:AV}{cv:Value}(h:aw os w Z blk v cv)(hf:flat v=true):aw os w Z' blk v cv:=by
 induction h with
 |undef cv=>exact .undef cv
 |cG v cv h=>cases h<;>first|exact .cG _ _ (.lit _)|simp[flat]at hf
 |cd=>simp[flat]at hf
 |kk id sz off len cv h h1=>exact .kk id sz off len cv h h1
 |mP id r c cv h h1=>exact .mP id r c cv h h1
 |ref id sz off len b o cap cap' rows h hb hl hc jt=>exact .ref id sz off len b o cap cap' rows h hb hl hc jt
 |lR id sz h hb=>exact .lR id sz h hb
 |mo id sz off b x bo rows h hb hl=>exact .mo id sz off b x bo rows h hb hl
 |nA id c b cap cells h hb=>exact .nA id c b cap cells h hb
 |n9 id r c sz b o cap rows h hb=>exact .n9 id r c sz b o cap rows h hb
 |agg cs a7 hs _ ih=>simp only[flat]at hf;exact .agg cs a7 hs (λj x hx=>ih j x hx (Ja hf x (gk hx)))
 |bu cs a7 hs _ ih=>simp only[flat]at hf;exact .bu cs a7 hs (λj x hx=>ih j x hx (Ja hf x (gk hx)))
 |fn f cs a7 hs _ ih=>simp only[flat]at hf;exact .fn f cs a7 hs (λj x hx=>ih j x hx (Ja hf x (gk hx)))
 |gZ t v cv _ ih=>simp only[flat]at hf;exact .gZ t v cv (ih hf)
 |du id b ag L h hb=>exact .du id b ag L h hb
 |p' id cv h h1=>exact .p' id cv h h1
def aw.up{os gp:List Ob}{w:World}{Z Z':Nat->Prop}{blk jI:fX}{ρ:Nat->Nat}{v:AV}{cv:Value}(h:aw os w Z blk v cv)(hz:∀ b,Z b->Z' b)(ho:∀ j o,os[j]?=some o->gp[ρ j]?=some (bH ρ o)/\(o≠.gone->jI (ρ j)=blk j)):aw gp w Z' jI (bf ρ v) cv:=by
 induction h with
 |undef cv=>exact .undef cv
 |cG v cv h =>
  have h':aw gp w Z' jI v cv:=.cG _ _ (h.mono (λb hb=>⟨hz b hb,rfl⟩));cases h<;>simpa [bf] using h'
 |cd cells b o f ss hc ht=>exact .cd cells b o f (hz b ss) hc (λj x hx=>(ht j x hx).mono (λb hb=>⟨hz b hb,rfl⟩))
 |kk id sz off len cv h h1=>exact .kk _ sz off len cv (ho id _ h).1 h1
 |mP id r c cv h h1=>exact .mP _ r c cv (ho id _ h).1 h1
 |ref id sz off len b o cap cap' rows h hb hl hc jt =>
  obtain⟨h1,h2⟩:=ho id _ h;exact .ref _ sz off len b o cap cap' _ h1 ((h2 Iy).trans hb) (by simpa using hl) hc jt
 |lR id sz h hb =>
  obtain⟨h1,h2⟩:=ho id _ h;exact .lR _ sz h1 ((h2 Iy).trans hb)
 |mo id sz off b x bo rows h hb hl =>
  obtain⟨h1,h2⟩:=ho id _ h;exact .mo _ sz off b x bo _ h1 ((h2 Iy).trans hb) (by simpa using hl)
 |nA id c b cap cells h hb =>
  obtain⟨h1,h2⟩:=ho id _ h;exact .nA _ c b cap _ h1 ((h2 Iy).trans hb)
 |n9 id r c sz b o cap rows h hb =>
  obtain⟨h1,h2⟩:=ho id _ h;exact .n9 _ r c sz b o cap _ h1 ((h2 Iy).trans hb)
 |agg cs a7 hs _ ih =>
  simp only[bf,wK];refine .agg _ a7 (by simpa using hs) (λj x hx=>?_);simp only[b9,uT]at hx;obtain⟨y,hy,rfl⟩:=hx;exact ih j y hy
 |bu cs a7 hs _ ih =>
  simp only[bf,wK];refine .bu _ a7 (by simpa using hs) (λj x hx=>?_);simp only[b9,uT]at hx;obtain⟨y,hy,rfl⟩:=hx;exact ih j y hy
 |fn f cs a7 hs _ ih =>
  simp only[bf,wK];refine .fn f _ a7 (by simpa using hs) (λj x hx=>?_);simp only[b9,uT]at hx;obtain⟨y,hy,rfl⟩:=hx;exact ih j y hy
 |gZ t v cv _ ih=>simp only[bf];exact .gZ t _ cv ih
 |du id b ag L h hb =>
  obtain⟨h1,h2⟩:=ho id _ h;exact .du _ b ag _ h1 ((h2 Iy).trans hb)
 |p' id cv h h1=>exact .p' _ cv (ho id _ h).1 h1
def CH{ρ:Nat->Nat}{o:Ob}:bH ρ o=.gone↔o=.gone:=by cases o<;>simp[bH]
def Ob.acH{ρ:Nat->Nat}{x y:Ob}(h:x.dT y):(bH ρ x).dT (bH ρ y):=by
 cases x<;>cases y<;>simp[Ob.dT,bH]at h ⊢<;>exact h
def aw.down{os gp:List Ob}{w:World}{Z Z':Nat->Prop}{blk jI:fX}{ρ:Nat->Nat}{v:AV}{cv:Value}(h:aw os w Z blk v cv)(hz:∀ b,Z b->Z' b)(ho:∀ j x,os[ρ j]?=some x->∃ o,gp[j]?=some o/\(o=.gone\/(x=bH ρ o/\jI j=blk (ρ j)))):∀ v',v=bf ρ v'->aw gp w Z' jI v' cv:=by
 induction h with
 |undef cv=>intro v' hv;cases v'<;>simp[bf]at hv;exact .undef cv
 |cG v cv h =>
  intro v' hv;have h':aw gp w Z' jI v cv:=.cG _ _ (h.mono (λb hb=>⟨hz b hb,rfl⟩));cases h<;>cases v'<;>simp[bf]at hv<;>(first|(subst hv;exact h')|(obtain⟨rfl,rfl⟩:=hv;exact h'))
 |cd cells b o f ss hc ht =>
  intro v' hv;cases v'<;>simp[bf]at hv;subst hv;exact .cd _ b o f (hz b ss) hc (λj x hx=>(ht j x hx).mono (λb hb=>⟨hz b hb,rfl⟩))
 |kk id sz off len cv h h1 =>
  intro v' hv;cases v'<;>simp[bf]at hv;obtain⟨rfl,rfl,rfl,rfl⟩:=hv;obtain⟨o,h2,rfl |⟨h3,_⟩⟩:=ho _ _ h
  ·exact .kk _ _ _ _ cv h2 h1
  ·have:=CH.1 h3.symm;subst this;exact .kk _ _ _ _ cv h2 h1
 |mP id r c cv h h1 =>
  intro v' hv;cases v'<;>simp[bf]at hv;obtain⟨rfl,rfl,rfl⟩:=hv;obtain⟨o,h2,rfl |⟨h3,_⟩⟩:=ho _ _ h
  ·exact .mP _ _ _ cv h2 h1
  ·have:=CH.1 h3.symm;subst this;exact .mP _ _ _ cv h2 h1
 |ref id sz off len b o cap cap' rows h hb hl hc jt =>
  intro v' hv;cases v'<;>simp[bf]at hv;obtain⟨rfl,rfl,rfl,rfl⟩:=hv;obtain⟨x,h2,rfl |⟨h3,h4⟩⟩:=ho _ _ h
  ·exact .kk _ _ _ _ _ h2 rfl
  ·cases x<;>simp[bH]at h3;obtain⟨rfl,rfl⟩:=h3;exact .ref _ _ _ _ b o cap cap' _ h2 (h4.trans hb) (by simpa using hl) hc jt
 |lR id sz h hb =>
  intro v' hv;cases v'<;>simp[bf]at hv;obtain⟨rfl,rfl,rfl,rfl⟩:=hv;obtain⟨x,h2,rfl |⟨h3,h4⟩⟩:=ho _ _ h
  ·exact .kk _ _ _ _ _ h2 rfl
  ·cases x<;>simp[bH]at h3;obtain⟨rfl,h3⟩:=h3;subst h3;exact .lR _ _ h2 (h4.trans hb)
 |mo id sz off b x bo rows h hb hl =>
  intro v' hv;cases v'<;>simp[bf]at hv;obtain⟨rfl,rfl,rfl,rfl⟩:=hv;obtain⟨y,h2,rfl |⟨h3,h4⟩⟩:=ho _ _ h
  ·exact .kk _ _ _ _ _ h2 rfl
  ·cases y<;>simp[bH]at h3;obtain⟨rfl,rfl⟩:=h3;exact .mo _ _ _ b x bo _ h2 (h4.trans hb) (by simpa using hl)
 |nA id c b cap cells h hb =>
  intro v' hv;cases v'<;>simp[bf]at hv;obtain⟨rfl,rfl,rfl⟩:=hv;obtain⟨y,h2,rfl |⟨h3,h4⟩⟩:=ho _ _ h
  ·exact .mP _ _ _ _ h2 rfl
  ·cases y<;>simp[bH]at h3;exact .nA _ _ b cap _ h2 (h4.trans hb)
 |n9 id r c sz b o cap rows h hb =>
  intro v' hv;cases v'<;>simp[bf]at hv;obtain⟨rfl,rfl,rfl⟩:=hv;obtain⟨y,h2,rfl |⟨h3,h4⟩⟩:=ho _ _ h
  ·exact .mP _ _ _ _ h2 rfl
  ·cases y<;>simp[bH]at h3;obtain⟨rfl,rfl⟩:=h3;exact .n9 _ _ _ _ b o cap _ h2 (h4.trans hb)
 |agg cs a7 hs _ ih =>
  intro v' hv;cases v'<;>simp[bf,wK]at hv;rename_i q8;subst hv;exact .agg _ a7 (by simpa using hs) (λj x hx=>ih j (bf ρ x) (by simp[hx]) x rfl)
 |bu cs a7 hs _ ih =>
  intro v' hv;cases v'<;>simp[bf,wK]at hv;rename_i q8;subst hv;exact .bu _ a7 (by simpa using hs) (λj x hx=>ih j (bf ρ x) (by simp[hx]) x rfl)
 |fn f cs a7 hs _ ih =>
  intro v' hv;cases v'<;>simp[bf,wK]at hv;obtain⟨rfl,hv⟩:=hv;subst hv;exact .fn _ _ a7 (by simpa using hs) (λj x hx=>ih j (bf ρ x) (by simp[hx]) x rfl)
 |gZ t v cv _ ih =>
  intro v' hv;cases v'<;>simp[bf]at hv;obtain⟨rfl,hv⟩:=hv;exact .gZ _ _ cv (ih _ hv)
 |du id b ag L h hb =>
  intro v' hv;cases v'<;>simp[bf]at hv;subst hv;obtain⟨y,h2,rfl |⟨h3,h4⟩⟩:=ho _ _ h
  ·exact .p' _ _ h2 rfl
  ·cases y<;>simp[bH]at h3;obtain⟨rfl,h3⟩:=h3;exact .du _ b _ _ h2 (h4.trans hb)
 |p' id cv h h1 =>
  intro v' hv;cases v'<;>simp[bf]at hv;subst hv;obtain⟨y,h2,rfl |⟨h3,h4⟩⟩:=ho _ _ h
  ·exact .p' _ _ h2 h1
  ·exact .p' _ _ (by rw[h2,CH.1 h3.symm]) h1
def Jb(P : Program)(f : FuncId): Prop := ∃ fn, P.funcs[f]? = some fn /\ (fn.name == "runtime.NumGoroutine") = false /\ fn.body.isNone = false
def Holds(P:Program)(f:FuncId)(args:List AV)(aa:List Ob)(res:AV)(a8:List Ob):Prop :=
 Jb P f/\∀ γ:Cx,γ.tmps.size=args.length->bg ⟨λk=>args.getD k .undef,aa⟩ γ ->
  Calls P f γ.tmps γ.w (λe w'=>∃ cv az,e=.returned cv/\az.w=w'/\az.tmps = #[cv]/\bg ⟨λk=>[res].getD k .undef,a8⟩ az/\Fr aa γ a8 az)
inductive cL(σ:St)(kp:Nat->Prop):AV->AV->Prop
 |lit (x:Value):cL σ kp (.lit x) (.lit x)
 |tree (s:Nat) (r:List (List AV)):cL σ kp (.tree s r) (.tree s r)
 |nil (sz:Nat):cL σ kp (.tree sz []) (.lit (.slice none 0 0))
 |ref (id sz off len:Nat) (rows gz:List (List AV)) (g:Nat->Nat->AV) (ho:σ.aa[id]?=some (.arr sz rows)) (r9:¬ kp id) (hl:gz.length=((rows.drop off).take len).length) (hw:∀ row∈gz,row.length=sz)
   (h1:∀ r c v,cellAt gz r c=some v->cellAt ((rows.drop off).take len) r c=some (g r c)) (h2:∀ r c v,cellAt gz r c=some v->cL σ kp v (g r c)):cL σ kp (.tree sz gz) (.ref id sz off len)
inductive bw(σ:St)(kp:Nat->Prop)(ρ:Nat->Nat)(snap:Bool):AV->AV->Prop
 |same (v:AV):bw σ kp ρ snap v (bf ρ v)
 |snap (c d:AV) (hs:snap=true) (h:cL σ kp c d):bw σ kp ρ snap c d
 |agg (cs ds:List AV) (hl:cs.length=ds.length) (h:∀ (j:Nat) c d,cs[j]?=some c->ds[j]?=some d->bw σ kp ρ snap c d):bw σ kp ρ snap (.agg cs) (.agg ds)
 |bu (cs ds:List AV) (hl:cs.length=ds.length) (h:∀ (j:Nat) c d,cs[j]?=some c->ds[j]?=some d->bw σ kp ρ snap c d):bw σ kp ρ snap (.bu cs) (.bu ds)
def bq(n:Nat)(aj:List Nat)(j:Nat):Nat:=if j<aj.length then aj.getD j 0 else n+(j-aj.length)
def fl(aa:List Ob):List Nat->List Ob->List Ob
 |i::aj,o::new=>fl (aa.set i o) aj new
 |[],new=>aa++new
 |_::_,[]=>aa
def I4(aj:List Nat):∀ (aa new:List Ob),aj.length<=new.length->(fl aa aj new).length=aa.length+(new.length-aj.length):=by
 induction aj with
 |nil=>intro aa new _;simp[fl]
 |cons i aj ih =>
  intro aa new h;cases new with
  |nil=>simp at h
  |cons o new=>simp only[fl];rw[ih _ _ (by simpa using h)];simp
def Fi(aj:List Nat):∀ (aa new:List Ob),aj.length<=new.length->aj.Nodup->(∀ i∈aj,i<aa.length)->∀ j,j<aj.length->(fl aa aj new)[aj.getD j 0]?=new[j]?:=by
 induction aj with
 |nil=>intro aa new _ _ _ j hj;simp at hj
 |cons i aj ih =>
  intro aa new h hn hl j hj;cases new with
  |nil=>simp at h
  |cons o new =>
   simp only[fl];rw[List.nodup_cons]at hn;have hi:=hl i Iy;have h':aj.length<=new.length:=by simpa using h
   cases j with
   |zero =>
    simp only[List.getD_cons_zero,uW];have key:∀ (aj:List Nat) (aa new:List Ob),aj.length<=new.length->i ∉ aj->i<aa.length->(fl aa aj new)[i]?=aa[i]?:=by
     intro aj
     induction aj with
     |nil=>intro aa new _ _ hi;simp only[fl];rw[eB hi]
     |cons k aj Ba =>
      intro aa new h vj hi;cases new with
      |nil=>simp at h
      |cons o new =>
       simp only[bj,not_or]at vj;simp only[fl];rw[Ba _ _ (by simpa using h) vj.2 (by simpa using hi),gV (Ne.symm vj.1)]
    rw[key aj _ _ h' hn.1 (by simpa using hi)];simp[hi]
   |succ j =>
    simp only[List.getD_cons_succ,rW];exact ih _ _ h' hn.2 (λk hk=>by simpa using hl k (by simp[hk])) j (by simpa using hj)
def Fq(aj:List Nat):∀ (aa new:List Ob),aj.length<=new.length->∀ i,i ∉ aj->i<aa.length->(fl aa aj new)[i]?=aa[i]?:=by
 induction aj with
 |nil=>intro aa new _ i _ hi;simp only[fl];rw[eB hi]
 |cons k aj ih =>
  intro aa new h i vj hi;cases new with
  |nil=>simp at h
  |cons o new =>
   simp only[bj,not_or]at vj;simp only[fl];rw[ih _ _ (by simpa using h) i vj.2 (by simpa using hi),gV (Ne.symm vj.1)]
def Po(aj:List Nat):∀ (aa new:List Ob),aj.length<=new.length->∀ m,(fl aa aj new)[aa.length+m]?=new[aj.length+m]?:=by
 induction aj with
 |nil=>intro aa new _ m;simp only[fl];rw[gX Ix];simp
 |cons k aj ih =>
  intro aa new h m;cases new with
  |nil=>simp at h
  |cons o new =>
   simp only[fl];have:=ih (aa.set k o) new (by simpa using h) m;simp only[List.length_set]at this;rw[this];simp only[dt];have e:aj.length+1+m=(aj.length+m)+1:=Ix;rw[e];simp
end Go.Am
namespace Go.Am
variable {P:Program}
def Fs(P:Program)(f:FuncId)(args:List AV)(σ:St)(K:AV->St->Prop):Prop :=
 ∃ (aj:List Nat) (snap:Bool) (dz:List AV) (bP:List Ob) (res:AV) (cY:List Ob),Holds P f dz bP res cY /\
  (aj.Nodup/\bP.length=aj.length/\(∀ (j:Nat) o,bP[j]?=some o->σ.aa[aj.getD j 0]?=some (bH (bq σ.aa.length aj) o)) /\
   dz.length=args.length/\(∀ (j:Nat) c d,dz[j]?=some c->args[j]?=some d->bw σ (·∈aj) (bq σ.aa.length aj) snap c d) /\
   (snap=true->flat res=true/\∀ o∈cY,CB o)) /\
  K (bf (bq σ.aa.length aj) res) { σ with aa:=fl σ.aa aj (cY.map (bH (bq σ.aa.length aj))) }
def cL.ze{σ:St}{γ:Cx}(h:bg σ γ){kp:Nat->Prop}{γc:Cx}(hz:∀ b,γ.Z b->γc.Z b)(hw:γc.w=γ.w)(Jc:∀ id b o cap,¬ kp id->Live σ.aa id->γ.blk id=some (b,o,cap)->γc.Z b){c d:AV}(ha:cL σ kp c d):∀ cv,aw σ.aa γ.w γ.Z γ.blk d cv->gx γc.w γc.Z c cv:=by
 induction ha with
 |lit x=>intro cv hv;rw[hv.cz];exact .lit x
 |tree s r=>intro cv hv;exact hv.zf.mono (λb hb=>⟨hz b hb,by rw[hw]⟩)
 |nil sz=>intro cv hv;rw[hv.cz];exact .nil sz 0 none
 |ref id sz off len rows gz g bI r9 hl0 AZ p7 mM ih =>
  intro cv hv;obtain⟨h0,cI,hblk⟩:=h.dF id _ bI;have bL:Live σ.aa id:=⟨_,bI,Iy⟩;cases hv with
  |cG _ _ h=>cases h
  |kk _ _ _ _ _ h=>rw[bI]at h;simp at h
  |lR _ _ h' hb =>
   have:gz=[]:=AK (by simpa using hl0);subst this;exact gx.nil sz 0 none
  |mo _ _ _ b x bo acI h' hb hl =>
   have:gz=[]:=AK (by simpa using hl0);subst this;exact gx.nil sz 0 (some ⟨b,x,none⟩)
  |ref _ _ _ _ b o cap cap' acI h' hb hl hc jt =>
   rw[bI]at h';simp at h';subst h';rcases hblk with⟨h1,_⟩|⟨b',o',CJ,cur,t,h1,h2,h3,h4,h5,h6⟩
   ·rw[hb]at h1;simp at h1
   ·rw[hb]at h1;simp at h1;obtain⟨rfl,rfl,rfl⟩:=h1;have hlen:((rows.drop off).take len).length=len:=NS;have vc:∀ r c v,cellAt ((rows.drop off).take len) r c=some v->cellAt rows (off+r) c=some v/\r<len:=by
     intro r c v hv;simp only[cellAt,List.getElem?_take,List.getElem?_drop]at hv;split at hv
     ·exact⟨hv,by assumption⟩
     ·simp at hv
    have II:γc.Z b:=Jc id b o cap r9 bL hb;have:=gx.tree (w:=γc.w) (Z:=γc.Z) sz gz b (o+off*sz) cap' (λr c=>cur.getD (o+((off+r)*sz+c)) Go.undef) II
     AZ (by rw[hl0,hlen];exact jt)
     (λr c v hv=>by
      obtain⟨qc,hr⟩:=vc r c _ (p7 r c v hv);obtain⟨vb,fD⟩:=CK cI qc;have a6:=zg (show off+r<cap by omega) fD;rw[hw];have e:o+off*sz+(r*sz+c)=o+((off+r)*sz+c):=by rw[Nat.add_mul];omega
      rw[e];exact zh h2 Ix)
     (λr c v hv=>by
      obtain⟨qc,_⟩:=vc r c _ (p7 r c v hv);exact ih r c v hv _ (h6 _ _ _ qc))
    rw[hl0,hlen]at this;exact this
def bw.rel{σ:St}{γ:Cx}(h:bg σ γ){kp:Nat->Prop}{ρ:Nat->Nat}{bP:List Ob}{snap:Bool}{γc:Cx}(hz:∀ b,γ.Z b->γc.Z b)(hw:γc.w=γ.w)(Jc:snap=true->∀ id b o cap,¬ kp id->Live σ.aa id->γ.blk id=some (b,o,cap)->γc.Z b)(ho:∀ j x,σ.aa[ρ j]?=some x->∃ o,bP[j]?=some o/\(o=.gone\/(x=bH ρ o/\γc.blk j=γ.blk (ρ j)))){c d:AV}(ha:bw σ kp ρ snap c d):∀ cv,aw σ.aa γ.w γ.Z γ.blk d cv->aw bP γc.w γc.Z γc.blk c cv:=by
 induction ha with
 |same v =>
  intro cv hv;rw[hw];exact hv.down hz ho v rfl
 |snap c d hs hf =>
  intro cv hv;exact .cG _ _ (hf.ze h hz hw (Jc hs) cv hv)
 |agg cs ds hl _ ih =>
  intro cv hv;obtain⟨a7,rfl,h1,h2⟩:=hv.PG;refine .agg cs a7 Ix (λj x hx=>?_);have hj:j<ds.length:=by have:=(aR.1 hx).1;omega
  exact ih j x ds[j] hx (by simp[hj]) _ (h2 j _ (by simp[hj]))
 |bu cs ds hl _ ih =>
  intro cv hv;obtain⟨a7,rfl,h1,h2⟩:=hv.PH;refine .bu cs a7 Ix (λj x hx=>?_);have hj:j<ds.length:=by have:=(aR.1 hx).1;omega
  exact ih j x ds[j] hx (by simp[hj]) _ (h2 j _ (by simp[hj]))
def PI{n:Nat}{aj:List Nat}(_hs:∀ i∈aj,i<n){j:Nat}(h:bq n aj j<n):j<aj.length/\bq n aj j=aj.getD j 0:=by
 unfold bq at h ⊢;split
 ·exact⟨by assumption,rfl⟩
 ·rename_i hj;rw[if_neg hj]at h;omega
def aG{aj:List Nat}{j:Nat}(h:j<aj.length):aj.getD j 0∈aj:=by
 rw[aB];simp[h]
def PJ{aj:List Nat}(hn:aj.Nodup){i j:Nat}(hi:i<aj.length)(hj:j<aj.length)(h:aj.getD i 0=aj.getD j 0):i=j:=by
 rw[aB,aB]at h;simp[hi,hj]at h;exact(List.getElem_inj hn).1 h
def Ft{aj:List Nat}{i:Nat}(h:i∈aj):∃j,j<aj.length/\aj.getD j 0=i:=by
 obtain⟨j,hj⟩:=List.mem_iff_getElem?.1 h;have:=(aR.1 hj).1;exact⟨j,this,by rw[aB,hj];rfl⟩
def cQ(P:Program)(f:FuncId)(args:List AV)(aa:List Ob)(hJ:AV->List Ob->Prop):Prop :=
 Jb P f/\∀ γ:Cx,γ.tmps.size=args.length->bg ⟨λk=>args.getD k .undef,aa⟩ γ ->
  Calls P f γ.tmps γ.w (λe w'=>∃ res a8 cv az,hJ res a8/\e=.returned cv/\az.w=w'/\az.tmps = #[cv]/\bg ⟨λk=>[res].getD k .undef,a8⟩ az/\Fr aa γ a8 az)
def Jd(P:Program)(f:FuncId)(args:List AV)(σ:St)(K:AV->St->Prop):Prop :=
 ∃ (aj:List Nat) (snap:Bool) (dz:List AV) (bP:List Ob) (hJ:AV->List Ob->Prop),cQ P f dz bP hJ /\
  (aj.Nodup/\bP.length=aj.length/\(∀ (j:Nat) o,bP[j]?=some o->σ.aa[aj.getD j 0]?=some (bH (bq σ.aa.length aj) o)) /\
   dz.length=args.length/\(∀ (j:Nat) c d,dz[j]?=some c->args[j]?=some d->bw σ (·∈aj) (bq σ.aa.length aj) snap c d)) /\
  ∀ res cY,hJ res cY->(snap=true->flat res=true/\∀ o∈cY,CB o) /\
   K (bf (bq σ.aa.length aj) res) { σ with aa:=fl σ.aa aj (cY.map (bH (bq σ.aa.length aj))) }
def PL{σ:St}{γ:Cx}(h:bg σ γ){f:FuncId}{args:List AV}{argv:Array Value}(aN:argv.size=args.length)(Je:∀ (j:Nat) d,args[j]?=some d->aw σ.aa γ.w γ.Z γ.blk d (argv.getD j Go.undef)){K:AV->St->Prop}(hc:Jd P f args σ K):
  Calls P f argv γ.w (λe w'=>∃ cv v σ' az,e=.returned cv/\az.w=w'/\az.tmps=γ.tmps/\bg σ' az/\Fr σ.aa γ σ'.aa az/\aw σ'.aa az.w az.Z az.blk v cv/\K v σ'/\σ'.env=σ.env):=by
 obtain⟨aj,snap,dz,bP,hJ,hH,⟨bU,bG,tZ,kM,nv⟩,hKP⟩:=hc;have k8:∀ i∈aj,i<σ.aa.length:=by
  intro i hi;obtain⟨j,hj,rfl⟩:=Ft hi;have:j<bP.length:=Ix;exact(aR.1 (tZ j bP[j] (by simp[this]))).1
 let ρ:=bq σ.aa.length aj
 let S:Nat->Prop:=λb=>snap=true/\∃ id o cap,id ∉ aj/\Live σ.aa id/\γ.blk id=some (b,o,cap)
 let γc:Cx:={ w:=γ.w,tmps:=argv,Z:=λb=>γ.Z b\/S b,blk:=λj=>if j<aj.length then γ.blk (aj.getD j 0) else none }
 have wO:∀ j x,σ.aa[ρ j]?=some x->∃ o,bP[j]?=some o/\(o=.gone\/(x=bH ρ o/\γc.blk j=γ.blk (ρ j))):=by
  intro j x hx;obtain⟨hj,hr⟩:=PI k8 (aR.1 hx).1;have k9:j<bP.length:=Ix;have:=tZ j bP[j] (by simp[k9]);refine⟨bP[j],by simp[k9],.inr ⟨?_,?_⟩⟩
  ·have bS:σ.aa[bq σ.aa.length aj j]?=some x:=hx;rw[hr,this]at bS;simpa using bS.symm
  ·show(if j<aj.length then γ.blk (aj.getD j 0) else none)=γ.blk (bq σ.aa.length aj j);rw[if_pos hj,hr]
 have je:∀ b,γ.Z b->γc.Z b:=λb hb=>.inl hb;have vn:∀ j,Live bP j->Live σ.aa (aj.getD j 0)/\j<aj.length:=by
  rintro j⟨o,ho,hg⟩;have hj:=(aR.1 ho).1;exact⟨⟨_,tZ j o ho,λe=>hg (CH.1 e)⟩,Ix⟩
 have wP:=λ{i b o c}=>h.blt (i:=i) (b:=b) (o:=o) (c:=c);have Jf:bg ⟨λk=>dz.getD k .undef,bP⟩ γc:=by
  refine⟨λk=>?_,?_,?_,?_,?_,λg=>xV (h.gl g) λb hb=>⟨je b hb,rfl⟩⟩
  ·rcases dE k dz.length with hk|hk
   ·have e:dz.getD k .undef=dz[k]:=by simp[hk]
    show aw bP γc.w γc.Z γc.blk (dz.getD k .undef) _;rw[e];have PN:k<args.length:=Ix;exact(nv k dz[k] args[k] (by simp[hk]) (by simp[PN])).rel h je rfl (λhs id b o cap bO hl hb=>.inr ⟨hs,id,o,cap,bO,hl,hb⟩) wO _ (Je k _ (by simp[PN]))
   ·have e:dz.getD k .undef=.undef:=by simp[hk]
    show aw bP γc.w γc.Z γc.blk (dz.getD k .undef) _;rw[e];exact .undef _
  ·intro j o ho;have hj:=(aR.1 ho).1;have CL:j<aj.length:=by rw[<- bG];exact hj
   have bI:=h.dF _ _ (tZ j o ho);have hb:γc.blk j=γ.blk (aj.getD j 0):=by show(if j<aj.length then _ else _)=_;rw[if_pos CL]
   cases o with
   |gone=>trivial
   |var cells =>
    obtain⟨b,cap,cur,t,h1,h2,h3,h4⟩:=bI;exact⟨b,cap,cur,t,hb.trans h1,h2,by simpa using h3,λc v hv=>(h4 c (bf ρ v) (by simp[hv];rfl)).down je wO v rfl⟩
   |mp ag L =>
    obtain⟨b,f,h1,h2,h3,h4⟩:=bI;refine⟨b,f,hb.trans h1,?_,λp hp=>h3 (p.1,bf ρ p.2) (Cm (f:=λp:List Int×AV=>(p.1,bf ρ p.2)) hp),λj p hp=>(h4 j (p.1,bf ρ p.2) (by simp only[b9,hp];rfl)).down je wO p.2 rfl⟩;rw[Jg,fW]at h2;exact h2
   |arr sz rows =>
    obtain⟨h0,hr,bI⟩:=bI;refine⟨h0,λrow bN=>by simpa using hr (row.map (bf ρ)) (Cm bN),?_⟩;rcases bI with⟨h1,h2⟩|⟨b,o,cap,cur,t,h1,h2,h3,h4,h5,h6⟩
    ·exact .inl ⟨hb.trans h1,by simpa using h2⟩
    ·refine .inr ⟨b,o,cap,cur,t,hb.trans h1,h2,h3,by simpa using h4,h5,λr c v hv=>(h6 r c (bf ρ v) ?_).down je wO v rfl⟩;simp only[cellAt,b9]at hv ⊢;cases gq:rows[r]? with
     |none=>simp[gq]at hv
     |some row=>simp[gq]at hv ⊢;exact⟨v,hv,rfl⟩
  ·intro i j b o c o' c' hi hj fY gM;obtain⟨h1,h2⟩:=vn i hi;obtain⟨h3,h4⟩:=vn j hj;have e1:γc.blk i=γ.blk (aj.getD i 0):=by show(if i<aj.length then _ else _)=_;rw[if_pos h2]
   have e2:γc.blk j=γ.blk (aj.getD j 0):=by show(if j<aj.length then _ else _)=_;rw[if_pos h4]
   exact PJ bU h2 h4 (h.inj _ _ b o c o' c' h1 h3 (e1▸fY) (e2▸gM))
  ·rintro b ⟨i,o,c,hi,hb⟩ hz;obtain⟨h1,h2⟩:=vn i hi;have e1:γc.blk i=γ.blk (aj.getD i 0):=by show(if i<aj.length then _ else _)=_;rw[if_pos h2]
   rw[e1]at hb;rcases hz with hz|⟨_,id,o',cap',bO,hl,aV⟩
   ·exact h.nz b ⟨_,o,c,h1,hb⟩ hz
   ·have:=h.inj _ _ b o c o' cap' h1 hl hb aV;exact bO (this▸aG h2)
  ·rintro b (hb|⟨_,id,o,cap,_,hl,hb⟩)
   ·exact h.fZ b hb
   ·exact wP hl hb
 have oa:=hH.2 γc (by show argv.size=_;omega) Jf;refine oa.mono ?_;rintro e w'⟨res,cY,cv,az,Jh,rfl,rfl,IK,iw,eX⟩;obtain⟨PO,hK⟩:=hKP res cY Jh;have acK:aj.length<=cY.length:=by have:=eX.len;omega
 let new:=cY.map (bH ρ)
 have ak:aj.length<=new.length:=by simpa [new] using acK
 let pd:=fl σ.aa aj new
 let jf:Cx:={ w:=az.w,tmps:=γ.tmps,Z:=λb=>az.Z b/\¬ S b,blk:=λi=>if i<σ.aa.length then γ.blk i else az.blk (aj.length+(i-σ.aa.length)) }
 have nB:∀ j o,cY[j]?=some o->pd[ρ j]?=some (bH ρ o)/\(o≠.gone->jf.blk (ρ j)=az.blk j):=by
  intro j o ho;by_cases hj:j<aj.length
  ·have e:ρ j=aj.getD j 0:=by show bq _ _ _=_;simp only[bq];rw[if_pos hj]
   have cH:=k8 _ (aG hj);refine⟨?_,λhg=>?_⟩
   ·rw[e];show(fl σ.aa aj new)[aj.getD j 0]?=_;rw[Fi aj σ.aa new ak bU k8 j hj];simp[new,ho]
   ·rw[e];show(if aj.getD j 0<σ.aa.length then _ else _)=_;rw[if_pos cH];have:=(eX.dY j Ix ⟨o,ho,hg⟩).1;rw[this];show _=if j<aj.length then _ else _;rw[if_pos hj]
  ·have e:ρ j=σ.aa.length+(j-aj.length):=by show bq _ _ _=_;simp only[bq];rw[if_neg hj]
   have e2:aj.length+(j-aj.length)=j:=Ix;refine⟨?_,λhg=>?_⟩
   ·rw[e];show(fl σ.aa aj new)[_]?=_;rw[Po aj σ.aa new ak,e2];simp[new,ho]
   ·rw[e];show(if σ.aa.length+(j-aj.length)<σ.aa.length then _ else az.blk (aj.length+(σ.aa.length+(j-aj.length)-σ.aa.length)))=_;rw[if_neg Ix];congr 1;omega
 have PQ:∀ b,S b->¬ γ.Z b:=by
  rintro b⟨_,id,o,cap,_,hl,hb⟩;exact h.nz b ⟨id,o,cap,hl,hb⟩
 have Bb:∀ b,oc bP γc.blk b->∃ i∈aj,∃ o cap,Live σ.aa i/\γ.blk i=some (b,o,cap):=by
  rintro b⟨j,o,c,hl,hb⟩;obtain⟨h1,h2⟩:=vn j hl;have e1:γc.blk j=γ.blk (aj.getD j 0):=by show(if j<aj.length then _ else _)=_;rw[if_pos h2]
  exact⟨_,aG h2,o,c,h1,e1▸hb⟩
 have Ji:∀ i,i ∉ aj->Live σ.aa i->∀ b o c,γ.blk i=some (b,o,c)->az.w.heap[b]?=γ.w.heap[b]?:=by
  intro i hi hl b o c hb;refine eX.dV b (wP hl hb) (λho=>?_);obtain⟨i',aq,o',c',jJ,aV⟩:=Bb b ho;have:=h.inj _ _ b o c o' c' hl jJ hb aV;exact hi (this▸aq)
 have Jj:∀ v cv,aw σ.aa γ.w γ.Z γ.blk v cv->aw pd jf.w jf.Z jf.blk v cv:=by
  intro v cv hv;refine hv.mono (λb hb=>⟨⟨eX.z0 b (je b hb),λhs=>PQ b hs hb⟩,?_⟩) (λi o ho=>?_)
  ·refine eX.dV b (h.fZ b hb) (λho=>?_);obtain⟨i',_,o',c',jJ,aV⟩:=Bb b ho;exact h.nz b ⟨i',o',c',jJ,aV⟩ hb
  ·have hi:=(aR.1 ho).1;have fR:jf.blk i=γ.blk i:=by show(if i<σ.aa.length then _ else _)=_;rw[if_pos hi]
   by_cases nC:i∈aj
   ·obtain⟨j,hj,rfl⟩:=Ft nC;have k9:j<cY.length:=Ix;have zi:pd[aj.getD j 0]?=some (bH ρ cY[j]):=by
     show(fl σ.aa aj new)[aj.getD j 0]?=_;rw[Fi aj σ.aa new ak bU k8 j hj];simp[new,k9]
    by_cases hg:cY[j]=.gone
    ·left;rw[zi,hg];rfl
    ·right;refine⟨fR,_,zi,?_⟩;obtain⟨_,x,x',hx,bS,jK⟩:=eX.dY j Ix ⟨cY[j],by simp[k9],hg⟩;have e1:cY[j]=x':=by simpa [k9] using bS
     have e2:=tZ j x hx;rw[ho]at e2;simp at e2;rw[e1,e2];exact Ob.acH jK
   ·have zi:pd[i]?=some o:=by
     show(fl σ.aa aj new)[i]?=_;rw[Fq aj σ.aa new ak i nC hi];exact ho
    by_cases hg:o=.gone
    ·subst hg;exact .inl zi
    ·exact .inr ⟨fR,o,zi,Ob.jg hg⟩
 have Fu:∀ v cv,aw cY az.w az.Z az.blk v cv->(snap=true->flat v=true)->aw pd jf.w jf.Z jf.blk (bf ρ v) cv:=by
  intro v cv hv iy;by_cases eO:snap=true
  ·exact(hv.acG (Z':=jf.Z) (iy eO)).up (λb hb=>hb) nB
  ·exact hv.up (λb hb=>⟨hb,λhs=>eO hs.1⟩) nB
 have q9:∀ i,Live pd i->(i<σ.aa.length/\i ∉ aj/\Live σ.aa i/\jf.blk i=γ.blk i)\/∃ j,Live cY j/\i=ρ j/\jf.blk i=az.blk j:=by
  rintro i⟨o,ho,hg⟩;have hlen:=(aR.1 ho).1;have Fj:pd.length=σ.aa.length+(new.length-aj.length):=I4 aj σ.aa new ak;have Fv:new.length=cY.length:=by simp[new]
  rcases dE i σ.aa.length with hi|hi
  ·by_cases nC:i∈aj
   ·right;obtain⟨j,hj,rfl⟩:=Ft nC;have k9:j<cY.length:=Ix;have e:ρ j=aj.getD j 0:=by show bq _ _ _=_;simp only[bq];rw[if_pos hj]
    have hx:=nB j cY[j] (by simp[k9]);rw[e]at hx;rw[ho]at hx;simp only[cm.injEq]at hx;have su:cY[j]≠.gone:=by intro h0;apply hg;rw[hx.1,h0];rfl
    exact⟨j,⟨_,by simp[k9],su⟩,e.symm,hx.2 su⟩
   ·left;have:pd[i]?=σ.aa[i]?:=Fq aj σ.aa new ak i nC hi;rw[this]at ho;exact⟨hi,nC,⟨o,ho,hg⟩,by show(if i<σ.aa.length then _ else _)=_;rw[if_pos hi]⟩
  ·right;have k9:aj.length+(i-σ.aa.length)<cY.length:=Ix;have e:ρ (aj.length+(i-σ.aa.length))=i:=by
    show bq _ _ _=_;simp only[bq];rw[if_neg Ix];omega
   have hx:=nB _ _ (show cY[aj.length+(i-σ.aa.length)]?=some cY[aj.length+(i-σ.aa.length)] by simp[k9]);rw[e]at hx;rw[ho]at hx;simp only[cm.injEq]at hx;have su:cY[aj.length+(i-σ.aa.length)]≠.gone:=by intro h0;apply hg;rw[hx.1,h0];rfl
   exact⟨_,⟨_,by simp[k9],su⟩,e.symm,hx.2 su⟩
 have Jk:∀ j b o c,Live cY j->az.blk j=some (b,o,c)->(∃ i∈aj,∃ o cap,Live σ.aa i/\γ.blk i=some (b,o,cap))\/γ.w.heap.size<=b:=by
  intro j b o c hl hb;rcases eX.own b ⟨j,o,c,hl,hb⟩ with h1|h1
  ·exact .inl (Bb b h1)
  ·exact .inr h1
 have acL:bg ⟨σ.env,pd⟩ jf:=by
  refine⟨λk=>Jj _ _ (h.an k),?_,?_,?_,?_,λg=>Jj _ _ (h.gl g)⟩
  ·intro i o ho;by_cases cD:o=.gone
   ·subst cD;trivial
   rcases q9 i ⟨o,ho,cD⟩ with⟨hi,nC,hl,fR⟩|⟨j,⟨x,hx,eF⟩,rfl,fR⟩
   ·have he:pd[i]?=σ.aa[i]?:=Fq aj σ.aa new ak i nC hi;have cE:σ.aa[i]?=some o:=by rw[<- he];exact ho
    exact(h.dF i o cE).mono Jj fR (λb o c hb=>Ji i nC hl b o c hb)
   ·have zj:=(nB j x hx).1;have e:o=bH ρ x:=by
     have:pd[ρ j]?=some o:=ho;rw[zj]at this;simpa using this.symm
    subst e;have bI:=iw.dF j x hx;have iy:snap=true->CB x:=λhs=>(PO hs).2 x (gk hx);cases x with
    |gone=>trivial
    |var cells =>
     obtain⟨b,cap,cur,t,h1,h2,h3,h4⟩:=bI;refine⟨b,cap,cur,t,fR.trans h1,h2,by simpa using h3,λc v hv=>?_⟩;simp only[b9,uT]at hv;obtain⟨y,hy,rfl⟩:=hv;exact Fu _ _ (h4 c y hy) (λhs=>iy hs y (gk hy))
    |mp ag L =>
     obtain⟨b,f,h1,h2,h3,h4⟩:=bI;refine⟨b,f,fR.trans h1,?_,λp hp=>?_,λj p hp=>?_⟩
     ·rw[Jg,fW];exact h2
     ·obtain⟨y,hy,rfl⟩:=b8.1 hp;exact h3 y hy
     ·simp only[b9,uT]at hp;obtain⟨y,hy,rfl⟩:=hp;exact Fu _ _ (h4 j y hy) (λhs=>iy hs y (gk hy))
    |arr sz rows =>
     obtain⟨h0,hr,bI⟩:=bI;refine⟨h0,?_,?_⟩
     ·intro row bN;simp only[b8]at bN;obtain⟨y,hy,rfl⟩:=bN;simpa using hr y hy
     ·rcases bI with⟨h1,h2⟩|⟨b,o,cap,cur,t,h1,h2,h3,h4,h5,h6⟩
      ·exact .inl ⟨fR.trans h1,by simpa using h2⟩
      ·refine .inr ⟨b,o,cap,cur,t,fR.trans h1,h2,h3,by simpa using h4,h5,λr c v hv=>?_⟩;simp only[cellAt,b9]at hv;cases gq:rows[r]? with
       |none=>simp[gq]at hv
       |some row =>
        simp only[gq,gY,Option.bind_some,b9,uT]at hv;obtain⟨y,hy,rfl⟩:=hv;exact Fu _ _ (h6 r c y (by simp[cellAt,gq,hy])) (λhs=>iy hs row (gk gq) y (gk hy))
  ·intro i j b o c o' c' hi hj fY gM;rcases q9 i hi with⟨wQ,nC,lg,fR⟩|⟨ji,hZ,rfl,fR⟩<;>rcases q9 j hj with⟨gA,CL,Fw,CM⟩|⟨jj,PR,rfl,CM⟩
   ·exact h.inj i j b o c o' c' lg Fw (fR▸fY) (CM▸gM)
   ·rw[fR]at fY;rw[CM]at gM;rcases Jk jj b o' c' PR gM with⟨i',aq,o1,c1,jJ,aV⟩|gd
    ·exact absurd (h.inj i i' b o c o1 c1 lg jJ fY aV) (λe=>nC (e▸aq))
    ·have:=wP lg fY;omega
   ·rw[fR]at fY;rw[CM]at gM;rcases Jk ji b o c hZ fY with⟨i',aq,o1,c1,jJ,aV⟩|gd
    ·exact absurd (h.inj j i' b o' c' o1 c1 Fw jJ gM aV) (λe=>CL (e▸aq))
    ·have:=wP Fw gM;omega
   ·rw[fR]at fY;rw[CM]at gM;rw[iw.inj ji jj b o c o' c' hZ PR fY gM]
  ·rintro b ⟨i,o,c,hi,hb⟩ ⟨hz,xW⟩;rcases q9 i hi with⟨wQ,nC,lg,fR⟩|⟨ji,hZ,rfl,fR⟩
   ·rw[fR]at hb;rcases eX.z1 b hz with(h1|h1)|h1|h1
    ·exact h.nz b ⟨i,o,c,lg,hb⟩ h1
    ·exact xW h1
    ·obtain⟨i',aq,o1,c1,jJ,aV⟩:=Bb b h1;exact nC ((h.inj i i' b o c o1 c1 lg jJ hb aV)▸aq)
    ·have:=wP lg hb;have Jl:γ.w.heap.size<=b:=h1;omega
   ·rw[fR]at hb;exact iw.nz b ⟨ji,o,c,hZ,hb⟩ hz
  ·rintro b ⟨hz,_⟩;exact iw.fZ b hz
 refine⟨cv,bf ρ res,⟨σ.env,pd⟩,jf,rfl,rfl,rfl,acL,?_,?_,hK,rfl⟩
 ·refine⟨eX.kJ,eX.tape,eX.output,eX.size,?_,?_,?_,?_,?_,?_,eX.drawn⟩
  ·intro b hb qf;refine eX.dV b hb (λho=>qf ?_);obtain⟨i',_,o1,c1,jJ,aV⟩:=Bb b ho;exact⟨i',o1,c1,jJ,aV⟩
  ·intro b hb;exact⟨eX.z0 b (je b hb),λhs=>PQ b hs hb⟩
  ·rintro b ⟨hz,xW⟩;rcases eX.z1 b hz with(h1|h1)|h1|h1
   ·exact .inl h1
   ·exact absurd h1 xW
   ·obtain⟨i',_,o1,c1,jJ,aV⟩:=Bb b h1;exact .inr (.inl ⟨i',o1,c1,jJ,aV⟩)
   ·exact .inr (.inr h1)
  ·rintro b ⟨i,o,c,hi,hb⟩;rcases q9 i hi with⟨wQ,nC,lg,fR⟩|⟨ji,hZ,rfl,fR⟩
   ·rw[fR]at hb;exact .inl ⟨i,o,c,lg,hb⟩
   ·rw[fR]at hb;rcases Jk ji b o c hZ hb with⟨i',_,o1,c1,jJ,aV⟩|gd
    ·exact .inl ⟨i',o1,c1,jJ,aV⟩
    ·exact .inr gd
  ·show σ.aa.length<=(fl σ.aa aj new).length;rw[I4 aj σ.aa new ak];omega
  ·rintro i hi ⟨o,ho,hg⟩;refine⟨by show(if i<σ.aa.length then _ else _)=_;rw[if_pos hi],?_⟩;by_cases nC:i∈aj
   ·obtain⟨j,hj,rfl⟩:=Ft nC;have k9:j<cY.length:=Ix;have zi:pd[aj.getD j 0]?=some (bH ρ cY[j]):=by
     show(fl σ.aa aj new)[aj.getD j 0]?=_;rw[Fi aj σ.aa new ak bU k8 j hj];simp[new,k9]
    have c9:pd[aj.getD j 0]?=some o:=ho;rw[zi]at c9;simp only[cm.injEq]at c9;have su:cY[j]≠.gone:=by intro h0;apply hg;rw[<- c9,h0];rfl
    obtain⟨_,x,x',hx,bS,jK⟩:=eX.dY j Ix ⟨cY[j],by simp[k9],su⟩;have e1:cY[j]=x':=by simpa [k9] using bS
    refine⟨bH ρ x,o,tZ j x hx,ho,?_⟩;rw[<- c9,e1];cases x<;>cases x'<;>simp_all [Ob.dT,bH]
   ·have he:pd[i]?=σ.aa[i]?:=Fq aj σ.aa new ak i nC hi;have cE:σ.aa[i]?=some o:=by rw[<- he];exact ho
    exact⟨o,o,cE,ho,Ob.jg hg⟩
 ·have:=iw.an 0;rw[IK]at this;exact Fu res cv (by simpa using this) (λhs=>(PO hs).1)
def Holds.r{f:FuncId}{args:List AV}{aa:List Ob}{res:AV}{a8:List Ob}(h:Holds P f args aa res a8):cQ P f args aa (λr os=>r=res/\os=a8) :=
 ⟨h.1,λγ aN hs=>(h.2 γ aN hs).mono λ_ _ ⟨cv,az,h1,h2,h3,h4,h5⟩=>⟨res,a8,cv,az,⟨rfl,rfl⟩,h1,h2,h3,h4,h5⟩⟩
def Fs.r{f:FuncId}{args:List AV}{σ:St}{K:AV->St->Prop}(h:Fs P f args σ K):Jd P f args σ K:=by
 obtain⟨aj,snap,dz,bP,res,cY,h1,⟨h2,h3,h4,h5,h6,h7⟩,h8⟩:=h;exact⟨aj,snap,dz,bP,_,h1.r,⟨h2,h3,h4,h5,h6⟩,λr os ⟨e1,e2⟩=>by subst e1;subst e2;exact⟨h7,h8⟩⟩
def PS{σ:St}{γ:Cx}(h:bg σ γ){f:FuncId}{args:List AV}{argv:Array Value}(aN:argv.size=args.length)(Je:∀ (j:Nat) d,args[j]?=some d->aw σ.aa γ.w γ.Z γ.blk d (argv.getD j Go.undef)){K:AV->St->Prop}(hc:Fs P f args σ K):
  Calls P f argv γ.w (λe w'=>∃ cv v σ' az,e=.returned cv/\az.w=w'/\az.tmps=γ.tmps/\bg σ' az/\Fr σ.aa γ σ'.aa az/\aw σ'.aa az.w az.Z az.blk v cv/\K v σ'/\σ'.env=σ.env) :=
 PL h aN Je hc.r
end Go.Am
namespace Go.Am
variable {P:Program}
def bg.select{σ:St}{γ:Cx}(h:bg σ γ)(aj:List Nat)(snap:Bool)(bP:List Ob)(bU:aj.Nodup)(bG:bP.length=aj.length)(tZ:∀ (j:Nat) o,bP[j]?=some o->o=.gone\/σ.aa[aj.getD j 0]?=some (bH (bq σ.aa.length aj) o))(k8:∀ i∈aj,i<σ.aa.length)(e:Nat->AV)(tm:Array Value)(he:∀ k,e k=.undef\/∃ d,bw σ (λid=>∃ j,j<aj.length/\aj.getD j 0=id/\bP[j]?≠some .gone) (bq σ.aa.length aj) snap (e k) d/\aw σ.aa γ.w γ.Z γ.blk d (tm.getD k Go.undef)):
  ∃ az,az.w=γ.w/\az.tmps=tm/\bg ⟨e,bP⟩ az/\((∀ i,i<bP.length->az.blk i=γ.blk (aj.getD i 0))/\(∀ b,γ.Z b->az.Z b)/\(∀ b,az.Z b->γ.Z b\/oc σ.aa γ.blk b) /\
   ∀ i,Live bP i->Live σ.aa (aj.getD i 0)/\∃ o,bP[i]?=some o/\σ.aa[aj.getD i 0]?=some (bH (bq σ.aa.length aj) o)):=by
 let ρ:=bq σ.aa.length aj
 let kp:Nat->Prop:=λid=>∃ j,j<aj.length/\aj.getD j 0=id/\bP[j]?≠some .gone
 let S:Nat->Prop:=λb=>snap=true/\∃ id o cap,¬ kp id/\Live σ.aa id/\γ.blk id=some (b,o,cap)
 let γc:Cx:={ w:=γ.w,tmps:=tm,Z:=λb=>γ.Z b\/S b,blk:=λj=>if j<aj.length then γ.blk (aj.getD j 0) else none }
 have wO:∀ j x,σ.aa[ρ j]?=some x->∃ o,bP[j]?=some o/\(o=.gone\/(x=bH ρ o/\γc.blk j=γ.blk (ρ j))):=by
  intro j x hx;obtain⟨hj,hr⟩:=PI k8 (aR.1 hx).1;have k9:j<bP.length:=Ix;refine⟨bP[j],by simp[k9],?_⟩;rcases tZ j bP[j] (by simp[k9]) with hg|this
  ·exact .inl hg
  ·right;refine⟨?_,?_⟩
   ·have bS:σ.aa[bq σ.aa.length aj j]?=some x:=hx;rw[hr,this]at bS;simpa using bS.symm
   ·show(if j<aj.length then γ.blk (aj.getD j 0) else none)=γ.blk (bq σ.aa.length aj j);rw[if_pos hj,hr]
 have je:∀ b,γ.Z b->γc.Z b:=λb hb=>.inl hb;have vn:∀ j,Live bP j->Live σ.aa (aj.getD j 0)/\j<aj.length/\kp (aj.getD j 0)/\∃ o,bP[j]?=some o/\σ.aa[aj.getD j 0]?=some (bH ρ o):=by
  rintro j⟨o,ho,hg⟩;have hj:=(aR.1 ho).1;rcases tZ j o ho with h'|h'
  ·exact absurd h' hg
  ·exact⟨⟨_,h',λe=>hg (CH.1 e)⟩,Ix,⟨j,Ix,rfl,by rw[ho];simpa using hg⟩,o,ho,h'⟩
 have re:∀ j,j<aj.length->γc.blk j=γ.blk (aj.getD j 0):=λj hj=>by show(if j<aj.length then _ else _)=_;rw[if_pos hj]
 have Jf:bg ⟨e,bP⟩ γc:=by
  refine⟨λk=>?_,?_,?_,?_,?_,λg=>xV (h.gl g) λb hb=>⟨je b hb,rfl⟩⟩
  ·rcases he k with h0|⟨d,hd,hr⟩
   ·show aw bP γc.w γc.Z γc.blk (e k) _;rw[h0];exact .undef _
   ·exact hd.rel h je rfl (λhs id b o cap bO hl hb=>.inr ⟨hs,id,o,cap,bO,hl,hb⟩) wO _ hr
  ·intro j o ho;by_cases cD:o=.gone
   ·subst cD;trivial
   obtain⟨_,CL,_,o',cE,acM⟩:=vn j ⟨o,ho,cD⟩;have:o=o':=by
    have h1:bP[j]?=some o:=ho;rw[cE]at h1;simpa using h1.symm
   subst this;have bI:=h.dF _ _ acM;have hb:=re j CL;cases o with
   |gone=>trivial
   |var cells =>
    obtain⟨b,cap,cur,t,h1,h2,h3,h4⟩:=bI;exact⟨b,cap,cur,t,hb.trans h1,h2,by simpa using h3,λc v hv=>(h4 c (bf ρ v) (by simp only[b9,hv];rfl)).down je wO v rfl⟩
   |mp ag L =>
    obtain⟨b,f,h1,h2,h3,h4⟩:=bI;refine⟨b,f,hb.trans h1,?_,λp hp=>h3 (p.1,bf ρ p.2) (Cm (f:=λp:List Int×AV=>(p.1,bf ρ p.2)) hp),λj p hp=>(h4 j (p.1,bf ρ p.2) (by simp only[b9,hp];rfl)).down je wO p.2 rfl⟩;rw[Jg,fW]at h2;exact h2
   |arr sz rows =>
    obtain⟨h0,hr,bI⟩:=bI;refine⟨h0,λrow bN=>by simpa using hr (row.map (bf ρ)) (Cm bN),?_⟩;rcases bI with⟨h1,h2⟩|⟨b,o,cap,cur,t,h1,h2,h3,h4,h5,h6⟩
    ·exact .inl ⟨hb.trans h1,by simpa using h2⟩
    ·refine .inr ⟨b,o,cap,cur,t,hb.trans h1,h2,h3,by simpa using h4,h5,λr c v hv=>(h6 r c (bf ρ v) ?_).down je wO v rfl⟩;simp only[cellAt,b9]at hv ⊢;cases gq:rows[r]? with
     |none=>simp[gq]at hv
     |some row=>simp[gq]at hv ⊢;exact⟨v,hv,rfl⟩
  ·intro i j b o c o' c' hi hj fY gM;obtain⟨h1,h2,_⟩:=vn i hi;obtain⟨h3,h4,_⟩:=vn j hj;exact PJ bU h2 h4 (h.inj _ _ b o c o' c' h1 h3 (re i h2▸fY) (re j h4▸gM))
  ·rintro b ⟨i,o,c,hi,hb⟩ hz;obtain⟨h1,h2,h3,_⟩:=vn i hi;rw[re i h2]at hb;rcases hz with hz|⟨_,id,o',cap',bO,hl,aV⟩
   ·exact h.nz b ⟨_,o,c,h1,hb⟩ hz
   ·have:=h.inj _ _ b o c o' cap' h1 hl hb aV;exact bO (this▸h3)
  ·rintro b (hb|⟨_,id,o,cap,_,hl,hb⟩)
   ·exact h.fZ b hb
   ·exact h.blt hl hb
 refine⟨γc,rfl,rfl,Jf,λi hi=>re i Ix,je,?_,?_⟩
 ·rintro b (hb|⟨_,id,o,cap,_,hl,hb⟩)
  ·exact .inl hb
  ·exact .inr ⟨id,o,cap,hl,hb⟩
 ·intro i hi;obtain⟨h1,h2,_,h4⟩:=vn i hi;exact⟨h1,h4⟩
def Ob.acN{ρ:Nat->Nat}{x o:Ob}(h:x.dT (bH ρ o)):x.dT o:=by
 cases x<;>cases o<;>simp[Ob.dT,bH]at h ⊢<;>exact h
def Fr.select{os:List Ob}{γ0 γ az:Cx}{σ:St}(hf:Fr os γ0 σ.aa γ){aj:List Nat}{bP:List Ob}(hn:os.length<=aj.length)(bG:bP.length=aj.length)(bO:∀ i,i<os.length->aj.getD i 0=i)(hw:az.w=γ.w)(h:(∀ i,i<bP.length->az.blk i=γ.blk (aj.getD i 0))/\(∀ b,γ.Z b->az.Z b)/\(∀ b,az.Z b->γ.Z b\/oc σ.aa γ.blk b) /\
   ∀ i,Live bP i->Live σ.aa (aj.getD i 0)/\∃ o,bP[i]?=some o/\σ.aa[aj.getD i 0]?=some (bH (bq σ.aa.length aj) o)):Fr os γ0 bP az:=by
 obtain⟨h1,h2,h3,h4⟩:=h;refine⟨by rw[hw];exact hf.kJ,by rw[hw];exact hf.tape,by rw[hw];exact hf.output,by rw[hw];exact hf.size,by rw[hw];exact hf.dV,λb hb=>h2 b (hf.z0 b hb),?_,?_,Ix,?_,by rw[hw];exact hf.drawn⟩
 ·intro b hb;rcases h3 b hb with h|h
  ·exact hf.z1 b h
  ·rcases hf.own b h with h|h
   ·exact .inr (.inl h)
   ·exact .inr (.inr h)
 ·rintro b ⟨i,o,c,hi,hb⟩;have a6:=hi.lt;rw[h1 i a6]at hb;exact hf.own b ⟨_,o,c,(h4 i hi).1,hb⟩
 ·intro i hi hl;obtain⟨h5,o,ho,cE⟩:=h4 i hl;rw[bO i hi]at h5 cE;obtain⟨h6,x,x',hx,bS,hk⟩:=hf.dY i hi h5;refine⟨by rw[h1 i hl.lt,bO i hi];exact h6,x,o,hx,ho,?_⟩;rw[cE]at bS;simp only[cm.injEq]at bS;rw[<- bS]at hk;exact Ob.acN hk
def fq(N:Nat)(os:List Ob)(γ0:Cx)(σ:St)(a:Act)(w:World):Prop :=
 a.defers=[]/\a.tmps.size=N/\∃ γ,γ.w=w/\γ.tmps=a.tmps/\bg σ γ/\Fr os γ0 σ.aa γ
def W(P:Program)(N n0:Nat)(c:Code)(Q:Exit->St->Prop)(σ:St):Prop :=
 ∀ (os:List Ob) (γ0:Cx) (a:Act) (w:World),os.length=n0->fq N os γ0 σ a w->c.wp P (λe a' w'=>∃ σ',Q e σ'/\fq N os γ0 σ' a' w') a w
def r8(P:Program)(g:FuncId)(args:List AV)(dst:Option Tmp)(K:St->Prop)(σ:St):Prop:=Fs P g args σ λv σ'=>K (σ'.put dst v)
def E'(P:Program)(t:TypeId)(m:String):Option (FuncId×Option TypeId) :=
 match P.info? t with
 |none=>none
 |some i =>
  match i.methods.find? (·.name==m) with
  |none=>none
  |some r =>
   match r.path.isEmpty,r.func,P.underlying t with
   |true,some (g,pr),some (.pointer e)=>some (g,if pr then none else some e)
   |_,_,_=>none
def oX(P:Program)(σ:St)(v:AV)(K:FuncId->AV->Prop):Option (FuncId×Option TypeId)->Prop
 |some (g,none)=>K g v
 |some (g,some e) =>
  (ty P e).kind≠99 /\
  match v with
  |.ptr id r c =>
   match rowOf σ id r with
   |some row=>ml (ty P e) row c λx=>K g x
   |none=>False
  |_=>False
 |none=>False
def aI(P:Program)(o:Oper)(σ:St)(K:St->Prop):Prop :=
 match o.op with
 |.call { callee:=.value f,args,.. } =>
  match ev σ f with
  |.fn g bk=>r8 P g (args.toList.map (ev σ)++bk) o.dst K σ
  |_=>False
 |.call { callee:=.invoke r m,args,.. } =>
  match ev σ r with
  |.gZ t v=>oX P σ v (λg x=>r8 P g (x::args.toList.map (ev σ)) o.dst K σ) (E' P t m)
  |_=>False
 |_=>bW P o σ K
def od(P:Program)(o:Oper)(K:St->Prop)(b want:Bool)(σ:St):Prop:=(b=want->aI P o σ K)/\(b≠want->K (σ.put o.dst (.lit (.tuple #[]))))
def opsL(P:Program)(ops:Array Oper):List Oper->(St->Prop)->St->Prop
 |[],K,σ=>K σ
 |o::r,K,σ =>
  match o.guard with
  |none=>aI P o σ (opsL P ops r K)
  |some (j,want) =>
   match (ops[j]?).bind (·.dst) with
   |none=>False
   |some d =>
    match σ.env d with
    |.lit (.bool b)=>od P o (opsL P ops r K) b want σ
    |.lit (.tuple vs)=>vs = #[]/\opsL P ops r K (σ.put o.dst (.lit (.tuple #[])))
    |_=>False
def tR(a:Act)(d:Option Tmp)(v:Value):(a.put d v).tmps.size=a.tmps.size:=by cases d<;>simp[Act.put]
def put_defers(a:Act)(d:Option Tmp)(v:Value):(a.put d v).defers=a.defers:=by cases d<;>rfl
def acO(xt:TypeId)(a:Addr)(x y:String):Builtin.ssaWrapNilChk_ #[xt] xt #[.pointer (some a),strVal x,strVal y]=pure (.pointer (some a)):=rfl
def PU{w:World}{t:TypeId}{i:TypeInfo}(h:P.info? t=some i):(typeInfo t).run P w=.ok i w:=by
 simp[typeInfo,h]
def ext1(x:Value)(A:Array Value):(#[x]++A).extract 1 (#[x]++A).size=A:=by
 apply Array.ext';simp only[Array.toList_extract,List.extract,AJ,Array.size_append];simp[List.take_of_length_le]
def acP{σ:St}{γ:Cx}(hs:bg σ γ){t:TypeId}{m:String}{v:AV}{cv:Value}(hv:aw σ.aa γ.w γ.Z γ.blk v cv){K:FuncId->AV->Prop}(h:oX P σ v K (E' P t m)):
  ∃ g x cx,(Go.method (P.types.size+Made.depth) t cv m).run P γ.w=.ok (g,cx) γ.w/\aw σ.aa γ.w γ.Z γ.blk x cx/\K g x:=by
 obtain⟨fu,hfu⟩:∃fu,P.types.size+Made.depth=fu+1:=Nat.exists_eq_succ_of_ne_zero (by unfold Made.depth;omega);rw[hfu];unfold Go.method;unfold E' at h;cases hi:P.info? t with
 |none=>simp[hi,oX]at h
 |some i =>
  simp only[hi]at h;cases hf:i.methods.find? (·.name==m) with
  |none=>simp[hf,oX]at h
  |some r =>
   simp only[hf]at h;split at h
   ·rename_i g pr e hp hr hu;have vo:r.path = #[]:=Array.isEmpty_iff.1 hp;cases pr with
    |true =>
     simp only[if_pos,oX]at h;refine⟨g,v,cv,?_,hv,h⟩;simp[PU hi,hf,vo,follow,hr,receiverAt,run_underlying hu,Place.get]
    |false =>
     simp only[if_neg,Bool.false_eq_true,not_false_eq_true,oX]at h;obtain⟨hk,h⟩:=h;cases v with
     |ptr id rr c =>
      simp only at h;cases bN:rowOf σ id rr with
      |none=>simp[bN]at h
      |some row =>
       simp only[bN]at h;obtain⟨x,cx,h1,h2,h3⟩:=Jm hs hk hv bN h;refine⟨g,x,cx,?_,h2,h3⟩;obtain⟨b,base,cap,cur,tt,o,rfl,_⟩:=Fx hs hv bN;simp only[Instr.loadAt,Instr.sureAddr,Sem.run_bind,Sem.run_pure,Result.andThen_ok]at h1;simp[PU hi,hf,vo,follow,hr,receiverAt,run_underlying hu,Place.get,acO,asAddr,h1]
     |_=>exact h.elim
   ·exact h.elim
def wI{N:Nat}{os:List Ob}{γ0:Cx}{o:Oper}{σ:St}{K:St->Prop}(h:aI P o σ K){a:Act}{w:World}(ay:fq N os γ0 σ a w)(hd:∀ d,o.dst=some d->d<N){Q:Exit->Act->World->Prop}{next:Act->World->Prop}(hn:∀ σ' a' w',K σ'->fq N os γ0 σ' a' w'->next a' w'):o.wp P a w next Q:=by
 obtain⟨gI,aN,γ,rfl,ha,hs,hf⟩:=ay;have ua:∀ d,o.dst=some d->d<a.tmps.size:=λd h=>by rw[aN];exact hd d h
 have acR:bW P o σ K->o.wp P a γ.w next Q:=by
  intro h;obtain⟨n,x,w',σ',az,hr,qg,hK,iw,eX,qh,jG⟩:=acS h hs ha ua;unfold Oper.wp;rw[hr];have cP:fq N os γ0 σ' (a.put o.dst x) w':=⟨by rw[put_defers];exact gI,by rw[tR];exact aN,az,qh,jG,iw,hf.trans eX⟩;rcases qg with rfl|⟨rfl,rfl⟩
  ·exact hn _ _ _ hK cP
  ·exact hn _ _ _ hK cP
 unfold aI at h;split at h
 ·rename_i f args cp cZ;split at h
  ·rename_i g bk he;have ee:=sv hs ha f;rw[he]at ee;obtain⟨a7,aP,iI,vp⟩:=ee.PV;have nv:∀ (j:Nat) d,(args.toList.map (ev σ)++bk)[j]?=some d->aw σ.aa γ.w γ.Z γ.blk d (((args.map a.eval)++a7).getD j Go.undef):=by
    intro j d hj;simp only[ek];rcases dE j args.size with a6|gd
    ·rw[eB (by simpa using a6)]at hj;rw[EX (by simpa using a6)];simp only[b9,Cn,NK]at hj ⊢;cases hx:args[j]? with
     |none=>simp[hx]at hj
     |some y=>simp[hx]at hj ⊢;subst hj;exact sv hs ha y
    ·rw[gX (by simpa using gd)]at hj;rw[Array.getElem?_append_right (by simpa using gd)];simp only[fW,Array.length_toList,Array.size_map]at hj ⊢;have:=vp _ d hj;simpa [ek] using this
   unfold r8 at h;have oa:=PS hs (argv:=(args.map a.eval)++a7) (by simp[iI]) nv h;obtain⟨aj,snap,dz,bP,res,cY,⟨⟨fn,wR,rf,xX⟩,_⟩,_⟩:=h;unfold Oper.wp;have hr:(execOp a.eval o).run P γ.w=.ok (.enter g ((args.map a.eval)++a7)) γ.w:=by
    have lS : ¬ fn.name = "runtime.NumGoroutine" := by simpa using rf
    have mq:¬ fn.body=none:=by intro e;rw[e]at xX;simp at xX
    simp[execOp,cZ,resolve,aP,Deferred.ofValue,invoke,callFunc,wR,lS,mq]
   rw[hr];show Calls P g _ _ _;refine oa.mono ?_;rintro e w'⟨cv,v,σ',az,rfl,rfl,jG,iw,eX,hv,hK,sw⟩;refine hn _ _ _ hK ⟨by rw[put_defers];exact gI,by rw[tR];exact aN,{ az with tmps:=(a.put o.dst cv).tmps },rfl,rfl,q6 iw (by rw[jG,ha]) ua hv,?_⟩;rw[p6];exact(hf.trans eX).put _
  ·exact h.elim
 ·rename_i r m args cp cZ;split at h
  ·rename_i t v he;have ee:=sv hs ha r;rw[he]at ee;obtain⟨Fy,aP,vp⟩:=ee.PW;obtain⟨g,x,cx,hm,hx,h⟩:=acP hs vp h;have nv:∀ (j:Nat) d,(x::args.toList.map (ev σ))[j]?=some d->aw σ.aa γ.w γ.Z γ.blk d ((#[cx]++args.map a.eval).getD j Go.undef):=by
    intro j d hj;simp only[ek];cases j with
    |zero =>
     simp only[uW,cm.injEq]at hj;subst hj;rw[EX Iy];simpa using hx
    |succ j =>
     simp only[rW,b9,Cn]at hj;rw[Array.getElem?_append_right Iy];simp only[List.size_toArray,dt,List.length_nil,Nat.zero_add,Nat.add_sub_cancel,NK];cases hy:args[j]? with
     |none=>simp[hy]at hj
     |some y=>simp[hy]at hj ⊢;subst hj;exact sv hs ha y
   unfold r8 at h;have oa:=PS hs (argv:=#[cx]++args.map a.eval) NS nv h;obtain⟨aj,snap,dz,bP,res,cY,⟨⟨fn,wR,rf,xX⟩,_⟩,_⟩:=h;unfold Oper.wp;have hr:(execOp a.eval o).run P γ.w=.ok (.enter g (#[cx]++args.map a.eval)) γ.w:=by
    have lS : ¬ fn.name = "runtime.NumGoroutine" := by simpa using rf
    have mq:¬ fn.body=none:=by intro e;rw[e]at xX;simp at xX
    have e0:(#[Value.iface t Fy]++args.map a.eval)[0]?=some (.iface t Fy):=by rw[EX Iy];simp
    have e1:=ext1 (.iface t Fy) (args.map a.eval);have e2:(callMethod (.iface t Fy) m (args.map a.eval)).run P γ.w=.ok (.enter g (#[cx]++args.map a.eval)) γ.w:=by
     unfold callMethod;simp only[Sem.run_bind,run_program,Result.andThen_ok,hm];simp[callFunc,wR,lS,mq]
    simp only[execOp,cZ,resolve,aP,pure_bind,invoke,e0,e1];exact e2
   rw[hr];show Calls P g _ _ _;refine oa.mono ?_;rintro e w'⟨cv,v,σ',az,rfl,rfl,jG,iw,eX,hv,hK,sw⟩;refine hn _ _ _ hK ⟨by rw[put_defers];exact gI,by rw[tR];exact aN,{ az with tmps:=(a.put o.dst cv).tmps },rfl,rfl,q6 iw (by rw[jG,ha]) ua hv,?_⟩;rw[p6];exact(hf.trans eX).put _
  ·exact h.elim
 ·exact acR h
def CN{N:Nat}{os:List Ob}{γ0:Cx}{ops:Array Oper}(hd:∀ o∈ops.toList,∀ d,o.dst=some d->d<N){K:St->Prop}{Q:Exit->Act->World->Prop}(hQ:∀ σ' a' w',K σ'->fq N os γ0 σ' a' w'->Q .normal a' w'):∀ (l:List Oper) (i:Nat) (σ:St) (a:Act) (w:World),ops.toList.drop i=l->opsL P ops l K σ->fq N os γ0 σ a w ->
   wpOps P ops Q (List.range' i l.length) a w
 |[],i,σ,a,w,_,h,ay=>by simpa [wpOps] using hQ _ _ _ h ay
 |o::r,i,σ,a,w,hl,h,ay=>by
  have hi:ops[i]?=some o:=by
   have:(ops.toList.drop i)[0]?=some o:=by rw[hl];rfl
   simpa using this
  have hr:ops.toList.drop (i+1)=r:=by
   have:=congrArg List.tail hl;simpa [List.tail_drop] using this
  have cH:o∈ops.toList:=gk (by simpa using hi);rw[dt,List.range'_succ,wpOps_cons];unfold wpOp;simp only[hi];unfold opsL at h;cases hg:o.guard with
  |none =>
   simp only[hg]at h;have hw:Region.wanted o (yielded ops a.tmps)=true:=by simp[Region.wanted,hg]
   rw[if_pos hw];left;exact wI h ay (hd o cH) (λσ' a' w' hK cP=>CN hd hQ r (i+1) σ' a' w' hr hK cP)
  |some jw =>
   obtain⟨j,want⟩:=jw;simp only[hg]at h;cases dW:(ops[j]?).bind (·.dst) with
   |none=>simp[dW]at h
   |some d =>
    simp only[dW]at h;split at h
    ·rename_i b he;obtain⟨gI,aN,γ,rfl,ha,hs,hf⟩:=ay;have jc:=hs.an d;rw[he,ha]at jc;have hv:=jc.cz;have hy:yielded ops a.tmps j=some b:=by
      unfold yielded;rw[dW];have:a.tmps[d]?=some (.bool b):=by
       rw[ek]at hv;cases hx:a.tmps[d]? with
       |none=>rw[hx]at hv;simp[Go.undef]at hv
       |some y=>rw[hx]at hv;simp at hv;rw[hv]
      simp[this]
     by_cases gn:b=want
     ·have hw:Region.wanted o (yielded ops a.tmps)=true:=by simp[Region.wanted,hg,hy,gn]
      rw[if_pos hw];left;exact wI (h.1 gn) ⟨gI,aN,γ,rfl,ha,hs,hf⟩ (hd o cH) (λσ' a' w' hK cP=>CN hd hQ r (i+1) σ' a' w' hr hK cP)
     ·have hw:Region.wanted o (yielded ops a.tmps)=false:=by simp[Region.wanted,hg,hy,gn]
      rw[if_neg (by rw[hw];simp)];refine CN hd hQ r (i+1) _ _ _ hr (h.2 gn) ⟨by rw[put_defers];exact gI,by rw[tR];exact aN,{ γ with tmps:=(a.put o.dst Go.undef).tmps },rfl,rfl,q6 hs ha (λd h=>by rw[aN];exact hd o cH d h) (.lit _),?_⟩;rw[p6];exact hf.put _
    ·rename_i vs he;obtain⟨gI,aN,γ,rfl,ha,hs,hf⟩:=ay;have jc:=hs.an d;rw[he,ha]at jc;have hv:=jc.cz;have hy:yielded ops a.tmps j=none:=by
      unfold yielded;rw[dW];rw[ek]at hv;cases hx:a.tmps[d]? with
      |none=>simp[hx]
      |some y=>rw[hx]at hv;simp at hv;subst hv;simp[hx]
     have hw:Region.wanted o (yielded ops a.tmps)=false:=by simp[Region.wanted,hg,hy]
     rw[if_neg (by rw[hw];simp)];refine CN hd hQ r (i+1) _ _ _ hr h.2 ⟨by rw[put_defers];exact gI,by rw[tR];exact aN,{ γ with tmps:=(a.put o.dst Go.undef).tmps },rfl,rfl,q6 hs ha (λd h=>by rw[aN];exact hd o cH d h) (.lit _),?_⟩;rw[p6];exact hf.put _
    ·exact h.elim
end Go.Am
namespace Go.Am
variable {P:Program} {N n0:Nat} {Q:Exit->St->Prop} {σ:St}
def PX{c:Code}{Q':Exit->St->Prop}(h:W P N n0 c Q σ)(hq:∀ e s,Q e s->Q' e s):W P N n0 c Q' σ :=
 λos γ0 a w hn ay=>wp_mono (h os γ0 a w hn ay) (λ_ _ _ ⟨σ',h1,h2⟩=>⟨σ',hq _ _ h1,h2⟩)
def PY(h:Q .normal σ):W P N n0 .skip Q σ:=λ_ _ _ _ _ ay=>wp_skip ⟨σ,h,ay⟩
def acT{l:Nat}(h:Q .normal σ):W P N n0 (.label l) Q σ:=λ_ _ _ _ _ ay=>wp_label ⟨σ,h,ay⟩
def acU{id:Nat}(h:Q (.exit id) σ):W P N n0 (.exit id) Q σ:=λ_ _ _ _ _ ay=>wp_exit ⟨σ,h,ay⟩
def acV(h:Q .ret σ):W P N n0 .ret Q σ:=λ_ _ _ _ _ ay=>wp_ret ⟨σ,h,ay⟩
def acW(P:Program)(N n0:Nat)(y:Code)(Q:Exit->St->Prop):Exit->St->Prop
 |.normal,s=>W P N n0 y Q s
 |e,s=>Q e s
def Fc{x y:Code}(h:W P N n0 x (acW P N n0 y Q) σ):W P N n0 (.seq x y) Q σ:=by
 intro os γ0 a w hn ay;refine wp_seq (wp_mono (h os γ0 a w hn ay) ?_);rintro e a' w'⟨σ',h1,h2⟩;cases e with
 |normal=>exact h1 os γ0 a' w' hn h2
 |exit id=>exact⟨σ',h1,h2⟩
 |goto l=>exact⟨σ',h1,h2⟩
 |ret=>exact⟨σ',h1,h2⟩
 |panic c=>exact⟨σ',h1,h2⟩
 |outgrown=>exact⟨σ',h1,h2⟩
def PZ{c:Operand}{x y:Code}{t:Bool}(hc:ev σ c=.lit (.bool t))(ht:t=true->W P N n0 x Q σ)(hf:t=false->W P N n0 y Q σ):W P N n0 (.cond c x y) Q σ:=by
 intro os γ0 a w hn ay;have aP:a.eval c=.bool t:=by
  obtain⟨_,_,γ,rfl,ha,hs,_⟩:=ay;have:=sv hs ha c;rw[hc]at this;exact this.cz
 exact wp_cond_split aP (λh=>ht h os γ0 a w hn ay) (λh=>hf h os γ0 a w hn ay)
def Fg(id:Nat)(Q:Exit->St->Prop):Exit->St->Prop
 |.exit nZ,s=>if nZ=id then Q .normal s else Q (.exit nZ) s
 |e,s=>Q e s
def acz{id:Nat}{c:Code}(h:W P N n0 c (Fg id Q) σ):W P N n0 (.block id c) Q σ:=by
 intro os γ0 a w hn ay;refine wp_block (wp_mono (h os γ0 a w hn ay) ?_);rintro e a' w'⟨σ',h1,h2⟩;cases e with
 |exit nZ =>
  simp only[Fg]at h1;simp only[Exit.inBlock];split
  ·rename_i he;rw[if_pos he]at h1;exact⟨σ',h1,h2⟩
  ·rename_i he;rw[if_neg he]at h1;exact⟨σ',h1,h2⟩
 |normal=>exact⟨σ',h1,h2⟩
 |goto l=>exact⟨σ',h1,h2⟩
 |ret=>exact⟨σ',h1,h2⟩
 |panic c=>exact⟨σ',h1,h2⟩
 |outgrown=>exact⟨σ',h1,h2⟩
def eU(N:Nat)(ops:Array Oper):Bool:=ops.toList.all λo=>match o.dst with|some d=>decide (d<N)|none=>true
def nx{ops:Array Oper}(h:eU N ops=true):∀ o∈ops.toList,∀ d,o.dst=some d->d<N:=by
 intro o ho d hd;unfold eU at h;rw[gH]at h;have:=h o ho;simp[hd]at this;exact this
def Pp{id:Nat}{ops:Array Oper}(hd:eU N ops=true)(h:opsL P ops ops.toList (Q .normal) σ):W P N n0 (.region id ops false) Q σ:=by
 intro os γ0 a w _ ay;refine wp_region ?_;have:=CN (P:=P) (N:=N) (os:=os) (γ0:=γ0) (ops:=ops) (nx hd) (K:=Q .normal) (Q:=λe a' w'=>∃ σ',Q e σ'/\fq N os γ0 σ' a' w') (λσ' a' w' hK cP=>⟨σ',hK,cP⟩)
  ops.toList 0 σ a w rfl h ay
 rw[List.range_eq_range'];simpa using this
def fq.drawn{os:List Ob}{γ0:Cx}{a:Act}{w:World}(h:fq N os γ0 σ a w):fq N os γ0 σ a { w with drawn:=w.drawn+1 }:=by
 obtain⟨h1,h2,γ,rfl,h3,h4,h5⟩:=h;exact⟨h1,h2,{ γ with w:={ γ.w with drawn:=γ.w.drawn+1 } },rfl,h3,h4.Jn rfl,h5.Jn rfl rfl rfl rfl⟩
def aF(n0:Nat)(σ σ':St):Prop:=∀ (os:List Ob) (γ0 γ:Cx),os.length=n0->bg σ γ->Fr os γ0 σ.aa γ->∃ az,az.w=γ.w/\az.tmps=γ.tmps/\bg σ' az/\Fr os γ0 σ'.aa az
def cr{c:Code}{σ':St}(h:aF n0 σ σ')(hw:W P N n0 c Q σ'):W P N n0 c Q σ:=by
 intro os γ0 a w hn ay;obtain⟨h1,h2,γ,rfl,h3,h4,h5⟩:=ay;obtain⟨az,e1,e2,e3,e4⟩:=h os γ0 γ hn h4 h5;exact hw os γ0 a γ.w hn ⟨h1,h2,az,e1,e2.trans h3,e3,e4⟩
def aF.forget{e:Nat->AV}(h:∀ k,e k=.undef\/e k=σ.env k):aF n0 σ ⟨e,σ.aa⟩:=by
 intro os γ0 γ _ hs hf;refine⟨γ,rfl,rfl,⟨λk=>?_,hs.dF,hs.inj,hs.nz,hs.fZ,hs.gl⟩,hf⟩;rcases h k with h|h
 ·show aw _ _ _ _ (e k) _;rw[h];exact .undef _
 ·show aw _ _ _ _ (e k) _;rw[h];exact hs.an k
def aF.select(aj:List Nat)(snap:Bool)(bP:List Ob)(e:Nat->AV)(bU:aj.Nodup)(bG:bP.length=aj.length)(tZ:∀ (j:Nat) o,bP[j]?=some o->o=.gone\/σ.aa[aj.getD j 0]?=some (bH (bq σ.aa.length aj) o))(k8:∀ i∈aj,i<σ.aa.length)(hn:n0<=aj.length)(bO:∀ i,i<n0->aj.getD i 0=i)(he:∀ k,e k=.undef\/bw σ (λid=>∃ j,j<aj.length/\aj.getD j 0=id/\bP[j]?≠some .gone) (bq σ.aa.length aj) snap (e k) (σ.env k)):aF n0 σ ⟨e,bP⟩:=by
 intro os γ0 γ Bd hs hf;obtain⟨az,h1,h2,h3,h4⟩:=hs.select aj snap bP bU bG tZ k8 e γ.tmps (λk=>(he k).imp id λh=>⟨_,h,hs.an k⟩);exact⟨az,h1,h2,h3,hf.select Ix bG (λi hi=>bO i Ix) h1 h4⟩
def aF.trans{σ1 σ2:St}(h:aF n0 σ σ1)(k:aF n0 σ1 σ2):aF n0 σ σ2:=by
 intro os γ0 γ Bd hs hf;obtain⟨γ1,a1,a2,a3,a4⟩:=h os γ0 γ Bd hs hf;obtain⟨Jo,b1,b2,b3,b4⟩:=k os γ0 γ1 Bd a3 a4;exact⟨Jo,b1.trans a1,b2.trans a2,b3,b4⟩
def aF.nil(d sz:Nat)(h:σ.env d=.lit (.slice none 0 0))(h0:0<sz):aF n0 σ ⟨jd σ.env d (.ref σ.aa.length sz 0 0),σ.aa++[.arr sz []]⟩:=by
 intro os γ0 γ _ hs hf;have hp:=hs.zl h0;refine⟨{ γ with blk:=c6 γ.blk σ.aa.length none },rfl,rfl,⟨λk=>?_,hp.dF,hp.inj,hp.nz,hp.fZ,hp.gl⟩,hf.trans (Fr.zl _ _ _)⟩;simp only[jd];by_cases hk:k=d
 ·subst hk;rw[if_pos rfl];have:=hs.an k;rw[h]at this;rw[this.cz];exact .lR _ _ (List.getElem?_concat_length ..) (by simp[c6])
 ·rw[if_neg hk];exact hp.an k
def dx(σ:St)(P:Program):List ResultVar->(List AV->Prop)->Prop
 |[],K=>K []
 |.tmp t::r,K=>dx σ P r λvs=>K (σ.env t::vs)
 |.cell a t::r,K =>
  (ty P t).kind≠99 /\
  match σ.env a with
  |.ptr id rr c =>
   match rowOf σ id rr with
   |some row=>ml (ty P t) row c λv=>dx σ P r λvs=>K (v::vs)
   |none=>False
  |_=>False
def dv:List AV->AV
 |[v]=>v
 |vs=>.bu vs
def Fz{γ:Cx}(hs:bg σ γ):∀ (rs:List ResultVar) (K:List AV->Prop),dx σ P rs K ->
  ∃ vs a7,K vs/\(rs.mapM λ(r:ResultVar)=>match r with|.tmp t=>(pure (γ.tmps.getD t Go.undef):Sem Value)|.cell a t=>do loadVar t (← asAddr (γ.tmps.getD a Go.undef))).run P γ.w=.ok a7 γ.w /\
   a7.length=vs.length/\vs.length=rs.length/\∀ (j:Nat) v,vs[j]?=some v->aw σ.aa γ.w γ.Z γ.blk v (a7.getD j Go.undef)
 |[],K,h=>⟨[],[],h,Iy,rfl,rfl,Iy⟩
 |.tmp t::r,K,h=>by
  obtain⟨vs,a7,h1,h2,h3,h4,h5⟩:=Fz hs r _ h;refine⟨_,γ.tmps.getD t Go.undef::a7,h1,?_,by simp[h3],by simp[h4],?_⟩
  ·simp only[List.mapM_cons,Sem.run_bind,Sem.run_pure,Result.andThen_ok,h2]
  ·intro j v hj;cases j with
   |zero=>simp at hj;subst hj;simpa using hs.an t
   |succ j=>simpa using h5 j v (by simpa using hj)
 |.cell a t::r,K,h=>by
  obtain⟨hk,h⟩:=h;split at h
  ·rename_i id rr c he;have hv:=hs.an a;rw[he]at hv;split at h
   ·rename_i row bN;obtain⟨v,cv,l1,l2,l3⟩:=Jm hs hk hv bN h;obtain⟨vs,a7,h1,h2,h3,h4,h5⟩:=Fz hs r _ l3;obtain⟨b,base,cap,cur,tt,o,hp,_⟩:=Fx hs hv bN;have eG:(do loadVar t (← asAddr (γ.tmps.getD a Go.undef)):Sem Value).run P γ.w=.ok cv γ.w:=by
     rw[hp]at l1 ⊢;simp only[Instr.loadAt,Instr.sureAddr,Sem.run_bind,Sem.run_pure,Result.andThen_ok]at l1;simp only[asAddr,Sem.run_bind,Sem.run_pure,Result.andThen_ok];exact l1
    refine⟨_,cv::a7,h1,?_,by simp[h3],by simp[h4],?_⟩
    ·simp only[List.mapM_cons];rw[Sem.run_bind,eG];simp only[Result.andThen_ok,Sem.run_bind,h2,Sem.run_pure]
    ·intro j x hj;cases j with
     |zero=>simp at hj;subst hj;simpa using l2
     |succ j=>simpa using h5 j x (by simpa using hj)
   ·exact h.elim
  ·exact h.elim
def nW(n0:Nat)(σ:St)(v res:AV)(a8:List Ob):Prop :=
 ∃ (aj:List Nat) (snap:Bool),aj.Nodup/\a8.length=aj.length/\(∀ (j:Nat) o,a8[j]?=some o->o=.gone\/σ.aa[aj.getD j 0]?=some (bH (bq σ.aa.length aj) o))/\(∀ i∈aj,i<σ.aa.length) /\
  n0<=aj.length/\(∀ i,i<n0->aj.getD i 0=i)/\bw σ (λid=>∃ j,j<aj.length/\aj.getD j 0=id/\a8[j]?≠some .gone) (bq σ.aa.length aj) snap res v
def Be(P:Program)(n0:Nat)(rs:List ResultVar)(res:AV)(a8:List Ob):Exit->St->Prop
 |.normal,s=>dx s P rs λvs=>nW n0 s (dv vs) res a8
 |.ret,s=>dx s P rs λvs=>nW n0 s (dv vs) res a8
 |_,_=>False
def Holds.Jp {f : FuncId} {fn : Func} {c : Code} {args : List AV} {aa : List Ob} {res : AV} {a8 : List Ob} (hf : P.funcs[f]? = some fn) (hb : fn.body = some c) (rf : (fn.name == "runtime.NumGoroutine") = false)
  (hN:args.length<=fn.ntmps) (h:W P fn.ntmps aa.length c (Be P aa.length fn.results.toList res a8) ⟨λk=>args.getD k .undef,aa⟩):Holds P f args aa res a8:=by
 refine⟨⟨fn,hf,rf,by rw[hb];rfl⟩,?_⟩;intro γ aN hs;refine calls_of_wp hf hb ?_
 let tm:=γ.tmps++Array.replicate (fn.ntmps-γ.tmps.size) Go.undef
 have ay:fq fn.ntmps aa γ ⟨λk=>args.getD k .undef,aa⟩ { tmps:=tm,defers:=[] } γ.w:=by
  refine⟨rfl,by simp[tm];omega,{ γ with tmps:=tm },rfl,rfl,⟨λk=>?_,hs.dF,hs.inj,hs.nz,hs.fZ,hs.gl⟩,(Fr.refl _ _).put _⟩;rcases dE k args.length with hk|hk
  ·have:=hs.an k;have e:tm.getD k Go.undef=γ.tmps.getD k Go.undef:=by
    simp only[tm,ek];rw[EX Ix]
   show aw _ _ _ _ _ (tm.getD k Go.undef);rw[e];exact this
  ·have e:args.getD k AV.undef=.undef:=by simp[hk]
   show aw _ _ _ _ (args.getD k .undef) _;rw[e];exact .undef _
 refine wp_mono (h aa γ _ γ.w rfl ay) ?_;rintro e a' w'⟨σ',h1,gI,_,az,rfl,ha,iw,eX⟩;have fin:∀ (K:List AV->Prop),dx σ' P fn.results.toList K->(∀ vs,K vs->nW aa.length σ' (dv vs) res a8) ->
   a'.defers=[]/\∃ v,(results fn a'.tmps).run P az.w=.ok v az.w/\∃ cv jf,Ending.returned v=.returned cv/\jf.w=az.w/\jf.tmps = #[cv]/\bg ⟨λk=>[res].getD k .undef,a8⟩ jf/\Fr aa γ a8 jf:=by
  intro K hK Jq;obtain⟨vs,a7,k1,k2,k3,k4,k5⟩:=Fz iw _ _ hK;obtain⟨aj,snap,r1,r2,r3,r4,r5,r6,r7⟩:=Jq vs k1;refine⟨gI,?_⟩;have eG :∃v,(results fn a'.tmps).run P az.w=.ok v az.w/\aw σ'.aa az.w az.Z az.blk (dv vs) v:=by
   have hm:(fn.results.mapM λ(r:ResultVar)=>match r with|.tmp t=>(pure (a'.tmps.getD t Go.undef):Sem Value)|.cell a t=>do loadVar t (← asAddr (a'.tmps.getD a Go.undef))).run P az.w=.ok a7.toArray az.w:=by
    rw[Array.mapM_eq_mapM_toList,Sem.run_map,<- ha,k2];rfl
   have hr:(results fn a'.tmps).run P az.w=.ok (if h:a7.toArray.size=1 then a7.toArray[0] else .tuple a7.toArray) az.w:=by
    unfold results;rw[Sem.run_bind];exact congrArg (λr=>Result.andThen r λ(a:Array Value) w'=>(pure (if h:a.size=1 then a[0] else Value.tuple a):Sem Value).run P w') hm
   rw[hr]
   match vs,a7,k3,k5 with
   |[],[],_,k5=>exact⟨_,rfl,.bu _ _ rfl (λj x hj=>by simp at hj)⟩
   |[v],[cv],_,k5=>exact⟨cv,Iy,by simpa [dv] using k5 0 v rfl⟩
   |v::v'::vs,cv::pf::a7,k3,k5 =>
    refine⟨.tuple (cv::pf::a7).toArray,Iy,.bu _ _ (by simpa using k3) (λj x hj=>?_)⟩;have:=k5 j x hj;simpa [aB,ek] using this
  obtain⟨v,kN,xY⟩:=eG;obtain⟨jf,e1,e2,e3,e4⟩:=iw.select aj snap a8 r1 r2 r3 r4 (λk=>[res].getD k .undef) #[v] (λk=>by
   cases k with
   |zero=>exact .inr ⟨_,r7,by simpa using xY⟩
   |succ k=>left;simp)
  exact⟨v,kN,v,jf,rfl,e1,e2,e3,eX.select r5 r2 r6 e1 e4⟩
 cases e with
 |normal=>exact fin _ h1 (λ_ h=>h)
 |ret=>exact fin _ h1 (λ_ h=>h)
 |exit id=>exact h1.elim
 |goto l=>exact h1.elim
 |panic c=>exact h1.elim
 |outgrown=>exact h1.elim
theorem Holds.aK {f:FuncId} {fn:Func} {c:Code} {args:List AV} {aa:List Ob} {res:AV} {a8:List Ob} (N k:Nat) (rs:List ResultVar) (hf:P.funcs[f]?=some fn) (h:W P N k c (Be P k rs res a8) ⟨fun k=>args.getD k .undef,aa⟩) (hb:fn.body=some c:=by rfl) (rf:(fn.name=="runtime.NumGoroutine")=false:=by rfl) (hN:fn.ntmps=N:=by rfl) (xZ:fn.results.toList=rs:=by rfl) (hk:aa.length=k:=by rfl) (hl:args.length<=N:=by simp):Holds P f args aa res a8:=by
 subst hN;subst xZ;subst hk;exact Holds.Jp hf hb rf hl h
def W_k{x y:Code}(h:∀ Q':Exit->St->Prop,(∀ s,W P N n0 y Q s->Q' .normal s)->(∀ e s,e≠.normal->Q e s->Q' e s)->W P N n0 x Q' σ):W P N n0 (.seq x y) Q σ :=
 Fc (h _ (λ_ h=>h) (λe s he hq=>by cases e<;>first|exact absurd rfl he|exact hq))
def Jr{id:Nat}{ops:Array Oper}{y:Code}(hd:eU N ops=true)(h:∀ K:St->Prop,(∀ s,W P N n0 y Q s->K s)->opsL P ops ops.toList K σ):W P N n0 (.seq (.region id ops false) y) Q σ :=
 Fc (Pp hd (h _ (λ_ h=>h)))
def P1{ops:Array Oper}{K:St->Prop}:opsL P ops [] K σ=K σ:=rfl
def P2{ops:Array Oper}{o:Oper}{r:List Oper}{K:St->Prop}:opsL P ops (o::r) K σ =
  match o.guard with
  |none=>aI P o σ (opsL P ops r K)
  |some (j,want) =>
   match (ops[j]?).bind (·.dst) with
   |none=>False
   |some d =>
    match σ.env d with
    |.lit (.bool b)=>od P o (opsL P ops r K) b want σ
    |.lit (.tuple vs)=>vs = #[]/\opsL P ops r K (σ.put o.dst (.lit (.tuple #[])))
    |_=>False:=rfl
def P3{o:Oper}{K:St->Prop}:od P o K true true σ=aI P o σ K:=by simp[od]
def P4{o:Oper}{K:St->Prop}:od P o K false false σ=aI P o σ K:=by simp[od]
def P5{o:Oper}{K:St->Prop}:od P o K true false σ=K (σ.put o.dst (.lit (.tuple #[]))):=by simp[od]
def P6{o:Oper}{K:St->Prop}:od P o K false true σ=K (σ.put o.dst (.lit (.tuple #[]))):=by simp[od]
def acY{o:Oper}{K:St->Prop}{b want:Bool}(h1:b=true->od P o K true want σ)(h2:b=false->od P o K false want σ):od P o K b want σ:=by
 cases b
 ·exact h2 rfl
 ·exact h1 rfl
def clr(ds:List Nat)(e:Nat->AV):Nat->AV:=λk=>if ds.contains k then .undef else e k
def FA{ds:List Nat}{e:Nat->AV}{k:Nat}:clr ds e k=if ds.contains k then .undef else e k:=rfl
def ac0(e:Nat->AV)(d:Nat)(v:AV):jd e d v d=v:=by simp[jd]
mutual
def ki:AV->Bool
 |.ref ..=>false
 |.ptr ..=>false
 |.agg cs=>lL cs
 |.bu cs=>lL cs
 |.fn _ cs=>lL cs
 |.gZ _ v=>ki v
 |.du _=>false
 |_=>true
def lL:List AV->Bool
 |[]=>true
 |v::vs=>ki v&&lL vs
end
mutual
def zb(ρ:Nat->Nat):∀ (v:AV),ki v=true->bf ρ v=v
 |.undef,_=>rfl
 |.lit _,_=>rfl
 |.tree ..,_=>rfl
 |.cd _,_=>rfl
 |.ref ..,h=>by simp[ki]at h
 |.ptr ..,h=>by simp[ki]at h
 |.agg cs,h=>by simp only[ki]at h;simp only[bf];rw[A6 ρ cs h]
 |.bu cs,h=>by simp only[ki]at h;simp only[bf];rw[A6 ρ cs h]
 |.fn f cs,h=>by simp only[ki]at h;simp only[bf];rw[A6 ρ cs h]
 |.gZ t v,h=>by simp only[ki]at h;simp only[bf];rw[zb ρ v h]
 |.du _,h=>by simp[ki]at h
def A6(ρ:Nat->Nat):∀ (l:List AV),lL l=true->o8 ρ l=l
 |[],_=>rfl
 |v::vs,h=>by
  simp only[lL,aZ]at h;simp only[o8];rw[zb ρ v h.1,A6 ρ vs h.2]
end
def ac1{l:List AV}(h:lL l=true){j:Nat}{x:AV}(hx:l[j]?=some x):ki x=true:=by
 induction l generalizing j with
 |nil=>simp at hx
 |cons v l ih =>
  simp only[lL,aZ]at h;cases j with
  |zero=>simp at hx;subst hx;exact h.1
  |succ j=>exact ih h.2 (by simpa using hx)
def bR{f:FuncId}{args:List AV}{dst:Option Tmp}{K:St->Prop}{res:AV}(h:Holds P f args [] res [])(ha:lL args=true)(hr:ki res=true)(hK:K (σ.put dst res)):r8 P f args dst K σ:=by
 refine⟨[],false,args,[],res,[],h,⟨Iu,rfl,Iy,rfl,?_,Iy⟩,?_⟩
 ·intro j c d hc hd;rw[hc]at hd;simp at hd;subst hd;have:=bw.same (σ:=σ) (kp:=(·∈([]:List Nat))) (ρ:=bq σ.aa.length []) (snap:=false) c;rw[zb _ c (ac1 ha hc)]at this;exact this
 ·rw[zb _ _ hr];simpa [fl] using hK
def I6{v:AV}(hr:ki v=true):nW 0 σ v v []:=by
 refine⟨[],false,Iu,rfl,Iy,Iy,bb _,Iy,?_⟩;have:=bw.same (σ:=σ) (kp:=λid=>∃ j,j<([]:List Nat).length/\([]:List Nat).getD j 0=id/\([]:List Ob)[j]?≠some .gone) (ρ:=bq σ.aa.length []) (snap:=false) v;rw[zb _ _ hr]at this;exact this
end Go.Am
namespace Go.Am
variable {P:Program}
def cls:Op->Nat
 |.move _|.assign _|.pick ..|.convert ..|.binOp ..|.unOp ..|.makeFunc ..|.makeInterface ..|.typeAssert ..|.field ..|.extract ..|.build ..|.index ..=>0
 |.call { callee:=.builtin .min,.. }|.call { callee:=.builtin .max,.. }=>0
 |.nilCheck _|.fieldAddr ..|.indexAddr ..|.slice ..=>1
 |.call { callee:=.builtin .len,.. }=>1
 |.load ..|.lookup ..=>2
 |.alloc _|.box ..|.makeSlice ..|.buildSlice ..|.makeMap ..=>3
 |.store ..=>4
 |_=>5
def tU:Ob->Ob->Prop
 |.var _,.var _=>True
 |.arr s _,.arr s' _=>s=s'
 |.mp a L,.mp b M=>a=b/\L=M
 |.gone,.gone=>True
 |_,_=>False
def xR(o:Ob):tU o o:=by cases o<;>simp[tU]
def kj(c:Nat)(a b:List Ob):Prop :=
 if c<=2 then b=a
 else if c=3 then ∀ (id:Nat),id<a.length->b[id]?=a[id]?
 else if c=4 then b.length=a.length/\∀ (id:Nat) o o',a[id]?=some o->b[id]?=some o'->tU o o'
 else True
def ac2(c:Nat)(h:c<=2)(a:List Ob):kj c a a:=by simp[kj,h]
def FB(a:List Ob)(o:Ob):kj 3 a (a++[o]):=by
 simp only[kj];intro id h;exact eB h
def ac3(σ:St)(id r:Nat)(row:List AV):kj 4 σ.aa (nV σ id r row).aa:=by
 simp only[kj];rw[if_neg NI,if_neg NI,if_pos trivial];have key:∀ (x y:Ob),σ.aa[id]?=some x->tU x y->(σ.aa.set id y).length=σ.aa.length/\∀ (i:Nat) o o',σ.aa[i]?=some o->(σ.aa.set id y)[i]?=some o'->tU o o':=by
  intro x y hx qj;refine⟨Iy,λi o o' ho cE=>?_⟩;rw[List.getElem?_set]at cE;split at cE
  ·rename_i e;subst e;split at cE
   ·simp at cE;subst cE;rw[hx]at ho;simp at ho;subst ho;exact qj
   ·simp at cE
  ·rw[ho]at cE;simp at cE;subst cE;exact xR o
 unfold nV;split
 ·rename_i cells h;exact key _ _ h trivial
 ·rename_i sz rows h;exact key _ _ h rfl
 ·exact⟨rfl,λi o o' ho cE=>by rw[ho]at cE;simp at cE;subst cE;exact xR o⟩
def og:AV->Option Nat
 |.ref id _ _ _=>some id
 |.ptr id _ _=>some id
 |.du id=>some id
 |_=>none
def gJ(c:Nat)(a b:Option Ob):Prop :=
 if c=0 then True else if c=1 then ∀ o,a=some o->∃ o',b=some o'/\tU o o' else ∀ o,a=some o->b=some o
def ql(c:Nat)(l:List Operand)(σ:St)(e2:Nat->AV)(ob:List Ob):Prop :=
 (∀ x∈l,ev ⟨e2,ob⟩ x=ev σ x)/\(∀ x∈l,∀ id,og (ev σ x)=some id->gJ c σ.aa[id]? ob[id]?)
def Js(P:Program)(o:Oper)(σ:St)(K:St->Prop)(c:Nat)(l:List Operand):Prop :=
 ∃ v os,kj c σ.aa os/\K ((⟨σ.env,os⟩:St).put o.dst v)/\∀ e2 ob os2 (K2:St->Prop),ql c l σ e2 ob->(if c<=2 then os2=ob else ob=σ.aa/\os2=os)->K2 ((⟨e2,os2⟩:St).put o.dst v)->bW P o ⟨e2,ob⟩ K2
theorem dA{o:Oper}{σ:St}{K:St->Prop}{c:Nat}{l:List Operand}{v:AV}(hW:K (σ.put o.dst v))(h:∀ e2 ob (K2:St->Prop),ql c l σ e2 ob->K2 ((⟨e2,ob⟩:St).put o.dst v)->bW P o ⟨e2,ob⟩ K2)(hc:c<=2:=by simp[cls]):Js P o σ K c l :=
 ⟨v,σ.aa,ac2 _ hc _,hW,fun e2 ob os2 K2 hx ho dK=>h e2 ob K2 hx (by rw[if_pos hc]at ho;subst ho;exact dK)⟩
def dB{o:Oper}{σ:St}{K:St->Prop}{c:Nat}{l:List Operand}{v:AV}{os:List Ob}(hc:3<=c)(he:kj c σ.aa os)(hW:K ((⟨σ.env,os⟩:St).put o.dst v))(h:∀ e2 (_:List Ob) (K2:St->Prop),ql 0 l σ e2 σ.aa->K2 ((⟨e2,os⟩:St).put o.dst v)->bW P o ⟨e2,σ.aa⟩ K2):Js P o σ K c l :=
 ⟨v,os,he,hW,λe2 ob os2 K2 hx ho dK=>by rw[if_neg Ix]at ho;obtain⟨rfl,rfl⟩:=ho;exact h e2 σ.aa K2 ⟨hx.1,λ_ _ _ _=>by simp[gJ]⟩ dK⟩
def parts_eq{parts:Array (Nat×Operand)}{σ τ:St}(h:∀ x∈parts.toList.map (·.2),ev τ x=ev σ x):
  (parts.toList.map λp=>(p.1,ev τ p.2))=(parts.toList.map λp=>(p.1,ev σ p.2))/\(parts.toList.all λp=>(cellsOf (ev τ p.2)).all cV)=(parts.toList.all λp=>(cellsOf (ev σ p.2)).all cV):=by
 have hp:(parts.toList.map λp=>(p.1,ev τ p.2))=(parts.toList.map λp=>(p.1,ev σ p.2)):=tL λp hp=>by rw[h _ (Cm hp)]
 exact⟨hp,by simpa [List.all_map,Function.comp_def] using congrArg (·.all λq=>(cellsOf q.2).all cV) hp⟩
def O9{t:Ty}{cells:List AV}{c:Nat}{K:AV->Prop}(h:ml t cells c K):∃v,K v/\∀ K2:AV->Prop,K2 v->ml t cells c K2:=by
 unfold ml at h ⊢;split at h
 ·exact⟨_,h.2,λK2 hK=>by simp_all⟩
 ·split at h<;>first|exact h.elim|exact⟨_,h,λK2 hK=>by simp_all⟩
def ac4{k:IntKind}{p q:Int}{K:Value->Prop}(h:vq k p q K):∃v,K v/\∀ K2:Value->Prop,K2 v->vq k p q K2:=by
 by_cases hk:k=.u64
 ·rw[vq,if_pos hk]at h;exact⟨_,h,λK2 h2=>by rw[vq,if_pos hk];exact h2⟩
 ·rw[vq,if_neg hk]at h;exact⟨_,h.2,λK2 h2=>by rw[vq,if_neg hk];exact⟨h.1,h2⟩⟩
def ac5{k:IntKind}{p:Int}{K:Value->Prop}(h:tQ k p K):∃v,K v/\∀ K2:Value->Prop,K2 v->tQ k p K2:=by
 by_cases hk:k=.u64
 ·rw[tQ,if_pos hk]at h;exact⟨_,h,λK2 h2=>by rw[tQ,if_pos hk];exact h2⟩
 ·rw[tQ,if_neg hk]at h;exact⟨_,h.2,λK2 h2=>by rw[tQ,if_neg hk];exact⟨h.1,h2⟩⟩
def ac6{op:BinOp}{k:IntKind}{p q:Int}{K:Value->Prop}(h:gy op k p q K):∃v,K v/\∀ K2:Value->Prop,K2 v->gy op k p q K2:=by
 unfold gy at h ⊢;split at h<;>first|exact ac4 h|exact⟨_,h.2,λK2 h'=>⟨h.1,h'⟩⟩|exact⟨_,h,λK2 h=>h⟩|exact h.elim
def ac7{σ:St}{e:Nat->AV}{ob:List Ob}{id r:Nat}{row:List AV}(h:∀ o,σ.aa[id]?=some o->ob[id]?=some o)(hr:rowOf σ id r=some row):rowOf ⟨e,ob⟩ id r=some row:=by
 unfold rowOf at hr ⊢;cases ho:σ.aa[id]?<;>simp_all
def ac8{σ:St}{e:Nat->AV}{ob:List Ob}{v:AV}{q:Nat×Nat×List (List Int×AV)}(h:∀ id,v=.du id->∀ o,σ.aa[id]?=some o->ob[id]?=some o)(hm:lK σ v=some q):lK ⟨e,ob⟩ v=some q:=by
 unfold lK at hm ⊢;split at hm
 ·rename_i id;split at hm
  ·rename_i ag L ho;have:=h id rfl _ ho;simp only[this];exact hm
  ·cases hm
 ·cases hm
def P7{o:Oper}{σ:St}{K:St->Prop}(hW:bW P o σ K):Js P o σ K (cls o.op) o.op.operands.toList:=by
 obtain⟨dst,op,type,pos,after,guard⟩:=o;unfold bW at hW;cases op
 case call c =>
  obtain⟨callee,args,argTypes⟩:=c;cases callee<;>try exact hW.elim
  rename_i b;cases b<;>try exact hW.elim
  all_goals simp only at hW
  case append =>
   (repeat' split at hW)<;>try exact hW.elim
   rename_i s x t t' bS jG _ _ _ _ z pre σ1 sz src hk hz mQ qm;have sw:σ1=⟨σ.env,σ1.aa⟩/\∀ e,k0 ⟨e,σ.aa⟩ (ty P (ty P t).elem).size (ev σ s)=some (pre,⟨e,σ1.aa⟩):=by
    unfold k0 at mQ ⊢;(repeat' split at mQ)<;>simp_all
    all_goals obtain⟨rfl,rfl⟩:=mQ;simp
   refine dB (os:=σ1.aa++[.arr sz (pre++src)]) (by simp[cls]) trivial (by have:=hW.2;rw[sw.1]at this;exact this) λe2 ob K2 hx dK=>?_;have kZ:nw ⟨e2,σ.aa⟩ (ev σ x)=some (sz,src):=qm;unfold bW;simp[ql,Op.operands,Call.operands,bS]at hx;simp only[bS,jG,hx.1.1,hx.1.2,hk,hz,sw.2,kZ];exact⟨hW.1,dK⟩
  case copy =>
   (repeat' split at hW)<;>try exact hW.elim
   rename_i bS jG _ _ id _ _ _ _ src he qm _ _ _ ho;refine dB (by simp[cls]) trivial hW.2 λe2 ob K2 hx dK=>?_;have kZ:nw ⟨e2,σ.aa⟩ _=_:=qm;unfold bW;simp[ql,Op.operands,Call.operands,bS]at hx;simp only[bS,jG,hx.1.1,hx.1.2,he,kZ,ho];exact⟨hW.1,dK⟩
  case clear =>
   (repeat' split at hW)<;>try exact hW.elim
   rename_i bS jG _ _ id _ _ _ _ he hz _ _ _ ho;refine dB (by simp[cls]) trivial hW.2 λe2 ob K2 hx dK=>?_;unfold bW;simp[ql,Op.operands,Call.operands,bS]at hx;simp only[bS,jG,hx,he,hz,ho];exact⟨hW.1,dK⟩
  all_goals(repeat' split at hW)<;>first|exact hW.elim|exact hW.2.elim|refine dA hW ?_|refine dA hW.2 ?_|refine dA hW.2.2 ?_
  all_goals
   intro e2 ob K2 hx dK;unfold bW;simp[ql,Op.operands,Call.operands,og,gJ,cls, *]at hx ⊢;first|done|(simp_all;done)|(obtain⟨_,o',_,hk⟩:=hx;cases o'<;>simp_all [tU];done)
 case load t x =>
  simp only at hW;obtain⟨hk,hW⟩:=hW;(repeat' split at hW)<;>try exact hW.elim
  all_goals
   obtain⟨v,hK,hl⟩:=O9 hW;refine dA hK λe2 ob K2 hx dK=>?_;unfold bW;simp[ql,Op.operands,og,gJ,cls, *]at hx;first|simp only[hx.1,ac7 hx.2 ‹rowOf _ _ _=_›]|simp only[hx]
   exact⟨hk,hl _ dK⟩
 case store t x y =>
  simp only at hW;obtain⟨hk,hW⟩:=hW;(repeat' split at hW)<;>try exact hW.elim
  rename_i id r c he _ row bN;have sw:∀ row,nV σ id r row=⟨σ.env,(nV σ id r row).aa⟩/\∀ e,nV ⟨e,σ.aa⟩ id r row=⟨e,(nV σ id r row).aa⟩:=by
   intro row;unfold nV;simp only;split<;>simp_all
  refine dB (by simp[cls]) (ac3 _ _ _ _) (by have:=hW.2;rw[(sw _).1]at this;exact this) λe2 ob K2 hx dK=>?_;have jL:rowOf ⟨e2,σ.aa⟩ id r=some row:=bN;unfold bW;simp only[hx.1 x (by simp[Op.operands]),hx.1 y (by simp[Op.operands]),he,jL];rw[(sw _).2];exact⟨hk,hW.1,dK⟩
 case build t parts =>
  simp only at hW;(repeat' split at hW)<;>first|exact hW.elim|refine dA hW.2 ?_
  all_goals
   intro e2 ob K2 hx dK;obtain⟨h1,h2⟩:=parts_eq (parts:=parts) (by simpa [Op.operands] using hx.1);unfold bW;simp only[h1,h2, *];simp[hW.1]
 case buildSlice t _ parts =>
  simp only at hW;(repeat' split at hW)<;>first|exact hW.elim|refine dB (bb 3) (FB _ _) hW.2 ?_
  intro e2 ob K2 hx dK;obtain⟨h1,h2⟩:=parts_eq (parts:=parts) (by simpa [Op.operands] using hx.1);unfold bW;simp only[h1,h2, *];simp[hW.1]
 case makeFunc fn first captured =>
  simp only at hW;split at hW<;>first|exact hW.elim|refine dA hW.2 λe2 ob K2 hx dK=>?_
  unfold bW;simp only[tL (l:=captured.toList) (f:=ev ⟨e2,ob⟩) (g:=ev σ) λy hy=>hx.1 y (by simp only[Op.operands,AJ,List.mem_append];exact .inr hy)];exact⟨hW.1,dK⟩
 case unOp op t x =>
  simp only at hW;split at hW
  ·rename_i b he;refine dA hW λe2 ob K2 hx dK=>?_;unfold bW;simp[ql,Op.operands]at hx;simp only[hx.1,he];exact dK
  ·rename_i k p he;obtain⟨v,hK,hl⟩:=ac5 hW;refine dA hK λe2 ob K2 hx dK=>?_;unfold bW;simp[ql,Op.operands]at hx;simp only[hx.1,he];exact hl _ dK
  ·exact hW.elim
 case binOp op t x y yt =>
  simp only at hW;split at hW
  ·rename_i k p k' q he hf;obtain⟨hk,hW⟩:=hW;obtain⟨v,hK,hl⟩:=ac6 hW;refine dA hK λe2 ob K2 hx dK=>?_;unfold bW;simp[ql,Op.operands,he,hf]at hx;simp only[hx.1.1,hx.1.2];exact⟨hk,hl _ dK⟩
  all_goals(repeat' split at hW)<;>first|exact hW.elim|exact hW.2.elim|refine dA hW.2 ?_
  all_goals
   intro e2 ob K2 hx dK;unfold bW;simp[ql,Op.operands, *]at hx ⊢;first|done|(simp_all;done)
 case slice t x lo hi mx =>
  simp only at hW;obtain⟨hk,dJ,rfl,hW⟩:=hW;cases lo<;>cases hi<;>simp only[gY,Option.map_none]at hW;all_goals(repeat' split at hW)<;>first|exact hW.elim|exact hW.2.elim|exact hW.2.2.elim|refine dA hW.2 ?_|refine dA hW.2.2 ?_|refine dA hW.2.2.2 ?_
  all_goals
   intro e2 ob K2 hx dK;unfold bW;simp only[cm.injEq]at *;simp[ql,Op.operands,og,gJ,cls, *]at hx ⊢;first|done|(simp_all;done)|(obtain⟨_,o',_,hk⟩:=hx;cases o'<;>simp_all [tU];done)|(obtain⟨_,⟨o',_,hk⟩,_⟩:=hx;cases o'<;>simp_all [tU];done)|trace_state
 case makeMap t r =>
  simp only at hW;obtain⟨⟨rfl,hk⟩,hK⟩:=hW;refine dB (bb 3) (FB _ _) hK λe2 ob K2 hx dK=>?_;unfold bW;exact⟨⟨rfl,hk⟩,dK⟩
 case lookup t x i ok =>
  simp only at hW;split at hW
  ·rename_i ag l id iJ L z eV nD nE;refine dA hW.2 λe2 ob K2 hx dK=>?_;have h1:=hx.1 x (by simp[Op.operands]);have h2:=hx.1 i (by simp[Op.operands]);have h3:lK ⟨e2,ob⟩ (ev σ x)=some (id,iJ,L):=ac8 (λnZ bO o ho=>by
    have:=hx.2 x (by simp[Op.operands]) nZ (by rw[bO];rfl);unfold gJ at this;simp[cls]at this;exact this o ho) nD
   unfold bW;simp only[h1,h2,eV,h3,nE];exact⟨hW.1,dK⟩
  ·exact hW.elim
 case mapUpdate t m k x =>
  simp only at hW;split at hW
  ·rename_i eV nD;obtain⟨mR,CO⟩:=hW;refine dB (v:=.undef) (os:=_) (by simp[cls]) trivial CO λe2 ob K2 hx dK=>?_;have h1:=hx.1 m (by simp[Op.operands]);have h2:=hx.1 k (by simp[Op.operands]);have h3:=hx.1 x (by simp[Op.operands]);have h4:lK ⟨e2,σ.aa⟩ (ev σ m)=_:=nD;unfold bW;simp only[h1,h2,h3,eV,h4];exact⟨mR,dK⟩
  ·exact hW.elim
 case mapEntry t m k =>
  simp only at hW;split at hW
  ·rename_i eV nD nE;obtain⟨mR,CO⟩:=hW;refine dB (v:=_) (os:=_) (by simp[cls]) trivial CO λe2 ob K2 hx dK=>?_;have h1:=hx.1 m (by simp[Op.operands]);have h2:=hx.1 k (by simp[Op.operands]);have h4:lK ⟨e2,σ.aa⟩ (ev σ m)=_:=nD;unfold bW;simp only[h1,h2,eV,h4,nE];exact⟨mR,dK⟩
  ·exact hW.elim
 case entryStore t m s x =>
  simp only at hW;split at hW
  ·rename_i hs nD;obtain⟨mR,CO⟩:=hW;refine dB (v:=.undef) (os:=_) (by simp[cls]) trivial CO λe2 ob K2 hx dK=>?_;have h1:=hx.1 m (by simp[Op.operands]);have h2:=hx.1 s (by simp[Op.operands]);have h3:=hx.1 x (by simp[Op.operands]);have h4:lK ⟨e2,σ.aa⟩ (ev σ m)=_:=nD;unfold bW;simp only[h1,h2,h3,hs,h4];exact⟨mR,dK⟩
  ·exact hW.elim
 all_goals(try simp only at hW);(try exact hW.elim)
 all_goals(repeat' split at hW)<;>first|exact hW.elim|exact hW.2.elim|exact hW.2.2.elim|refine dA hW ?_|refine dA hW.2 ?_|refine dA hW.2.2 ?_|refine dA hW.2.2.2 ?_|refine dB (bb 3) (FB _ _) hW.2 ?_|refine dB (bb 3) (FB _ _) hW.2.1 ?_
 all_goals
  intro e2 ob K2 hx dK;unfold bW;simp[ql,Op.operands,og,gJ,cls,-gH, *]at hx ⊢;first|done|(simp_all;done)|(obtain⟨_,rfl,_⟩:=hW;simp_all;done)|(obtain⟨_,o',_,hk⟩:=hx;cases o'<;>simp_all [tU];done)
def acm{o:Oper}{σ:St}{K:St->Prop}(hW:bW P o σ K):
  ∃ v os,kj (cls o.op) σ.aa os/\K ((⟨σ.env,os⟩:St).put o.dst v)/\∀ (e2:Nat->AV) (K2:St->Prop),(∀ x∈o.op.operands.toList,ev ⟨e2,σ.aa⟩ x=ev σ x)->K2 ((⟨e2,os⟩:St).put o.dst v)->bW P o ⟨e2,σ.aa⟩ K2:=by
 obtain⟨v,os,h1,h2,h3⟩:=P7 hW;refine⟨v,os,h1,h2,λe2 K2 hx hK=>h3 e2 _ os K2 ⟨hx,λ_ _ _ _=>?_⟩ ?_ hK⟩
 ·unfold gJ;(repeat' split)<;>first|trivial|exact λo ho=>ho|exact λo ho=>⟨o,ho,xR o⟩
 ·split
  ·rename_i hc;simpa [kj,hc] using h1
  ·exact⟨rfl,rfl⟩
def O'{o:Oper}{σ:St}{K:St->Prop}(hc:cls o.op<=2)(hW:bW P o σ K):
  ∃ v,K (σ.put o.dst v)/\∀ (σ2:St) (K2:St->Prop),(∀ x∈o.op.operands.toList,ev σ2 x=ev σ x)->(∀ x∈o.op.operands.toList,∀ id,og (ev σ x)=some id->gJ (cls o.op) σ.aa[id]? σ2.aa[id]?) ->
   K2 (σ2.put o.dst v)->bW P o σ2 K2:=by
 obtain⟨v,os,h1,h2,h3⟩:=P7 hW;simp only[kj,hc,if_true]at h1 h3;subst h1;exact⟨v,h2,λσ2 K2 hx ho hK=>h3 σ2.env σ2.aa _ K2 ⟨hx,ho⟩ rfl hK⟩
end Go.Am

