import Derived.Test.YtfoopmojjjpapaaGreatX02
import Derived.MapKept
import Derived.Laws.StructEq
set_option linter.all false
set_option maxHeartbeats 0
set_option maxRecDepth 20000
open List renaming getElem?_take→uY,getElem?_drop→nM,getElem?_set→bU,getElem?_eq_some_iff→aT,ext_getElem→OT,length_append→bI,length_singleton→CT,mem_append→da,mem_singleton→dI,getElem?_append_left→er,getElem?_append_right→gN,getElem?_cons_zero→uV,ext_getElem?→pR,length_set→bH,mem_or_eq_of_mem_set→tK,getElem?_eq_getElem→bS,getD_eq_getElem?_getD→az,getElem?_concat_length→Fp,getElem?_map→bY,replicate→aI,range→aY,range_succ→tM,flatMap_append→tN
open Nat renaming add_mul→eT,le_refl→aU,sub_self→iq,ne_of_lt→ns,lt_or_ge→dw,sub_zero→tJ,zero_add→gq,add_assoc→uZ
open Option renaming some→cy,map_some→im,map_none→pS,getD_some→pQ,bind_some→rT
open Array renaming range→Jh,getElem?_eq_some_iff→mM,getElem?_setIfInBounds_ne→tL,getElem?_toList→CS,getD_eq_getD_getElem?→ep
namespace Go.Am
def aez{P:Program}(w:World)(t e:TypeId)(a:Option Addr)(n c:Nat)(ht:P.underlying t=some (.slice e)):
  (binOp .eql t (.slice a n c) (.slice none 0 0)).run P w=.ok (.bool a.isNone) w:=by
 have h:∀ d:Nat,(Op.equalIn (d+1) t (.slice a n c) (.slice none 0 0)).run P w=.ok a.isNone w:=λd=>by
  cases a<;>simp[Op.equalIn,run_underlying ht]
 simp only[binOp];simp[Op.equal,Op.maxDepth,h 9999]
def aeA{P:Program}(w:World)(t e:TypeId)(a:Option Addr)(n c:Nat)(ht:P.underlying t=some (.slice e)):
  (binOp .neq t (.slice a n c) (.slice none 0 0)).run P w=.ok (.bool (!a.isNone)) w:=by
 have h:∀ d:Nat,(Op.equalIn (d+1) t (.slice a n c) (.slice none 0 0)).run P w=.ok a.isNone w:=λd=>by
  cases a<;>simp[Op.equalIn,run_underlying ht]
 simp only[binOp];simp[Op.equal,Op.maxDepth,h 9999]
variable {P:Program}
def aeB(w:World)(t:TypeId){e:TypeId}(a:Addr)(n c:Nat)(ht:P.underlying t=some (.slice e)):
  (binOp .eql t (.slice (some a) n c) (.slice none 0 0)).run P w=.ok (.bool false) w:=by
 have h:∀ d:Nat,(Op.equalIn (d+1) t (.slice (some a) n c) (.slice none 0 0)).run P w=.ok false w:=λd=>by
  simp[Op.equalIn,run_underlying ht]
 simp only[binOp];simp[Op.equal,Op.maxDepth,h 9999]
def aeC(w:World)(t:TypeId){e:TypeId}(a:Addr)(n c:Nat)(ht:P.underlying t=some (.slice e)):
  (binOp .neq t (.slice (some a) n c) (.slice none 0 0)).run P w=.ok (.bool true) w:=by
 have h:∀ d:Nat,(Op.equalIn (d+1) t (.slice (some a) n c) (.slice none 0 0)).run P w=.ok false w:=λd=>by
  simp[Op.equalIn,run_underlying ht]
 simp only[binOp];simp[Op.equal,Op.maxDepth,h 9999]
def aw.Kf{os:List Ob}{w:World}{Z:Nat->Prop}{blk:gd}{id r c:Nat}{cv:Value}(h:aw os w Z blk (.ptr id r c) cv):
  os[id]?=some .gone\/(∃ b cap cells,os[id]?=some (.var cells)/\blk id=some (b,0,cap)/\r=0/\cv=.pointer (some ⟨b,c,none⟩)) \/
  (∃ sz b o cap rows,os[id]?=some (.arr sz rows)/\blk id=some (b,o,cap)/\cv=.pointer (some ⟨b,o+(r*sz+c),none⟩)):=by
 cases h with
 |cJ _ _ h=>cases h
 |mR _ _ _ _ h=>exact .inl h
 |nx _ _ b cap cells h hb=>exact .inr (.inl ⟨b,cap,cells,h,hb,rfl,rfl⟩)
 |oa _ _ _ sz b o cap rows h hb=>exact .inr (.inr ⟨sz,b,o,cap,rows,h,hb,rfl⟩)
def aw.Kg{os:List Ob}{w:World}{Z:Nat->Prop}{blk:gd}{cells:List AV}{cv:Value}(h:aw os w Z blk (.cj cells) cv):
  ∃ b o,∃ f:Nat->Value,cv=.pointer (some ⟨b,o,none⟩)/\Z b/\(∀ j x,cells[j]?=some x->w.cell? ⟨b,o+j,none⟩=some (f j))/\∀ j x,cells[j]?=some x->iu w Z x (f j):=by
 cases h with
 |cJ _ _ h=>cases h
 |cj _ b o f h1 h2 h3=>exact⟨b,o,f,rfl,h1,h2,h3⟩
def aw.Kh{os:List Ob}{w:World}{Z:Nat->Prop}{blk:gd}{id sz off len:Nat}{cv:Value}(h:aw os w Z blk (.ref id sz off len) cv):
  os[id]?=some .gone\/(os[id]?=some (.arr sz [])/\blk id=none/\off=0/\len=0/\cv=.slice none 0 0) \/
  (len=0/\∃ b x bo rows,os[id]?=some (.arr sz rows)/\blk id=some (b,bo)/\off<=rows.length/\cv=.slice (some ⟨b,x,none⟩) 0 0) \/
  (∃ b o cap cap' rows,os[id]?=some (.arr sz rows)/\blk id=some (b,o,cap)/\off+len<=rows.length/\off+cap'<=cap/\len<=cap'/\cv=.slice (some ⟨b,o+off*sz,none⟩) len cap'):=by
 cases h with
 |cJ _ _ h=>cases h
 |ku _ _ _ _ _ h=>exact .inl h
 |lL _ _ h hb=>exact .inr (.inl ⟨h,hb,rfl,rfl,rfl⟩)
 |mo _ _ _ b x bo rows h hb hl=>exact .inr (.inr (.inl ⟨rfl,b,x,bo,rows,h,hb,hl,rfl⟩))
 |ref _ _ _ _ b o cap cap' rows h hb hl hc jC=>exact .inr (.inr (.inr ⟨b,o,cap,cap',rows,h,hb,hl,hc,jC,rfl⟩))
def aw.QU{os:List Ob}{w:World}{Z:Nat->Prop}{blk:gd}{cs:List AV}{cv:Value}(h:aw os w Z blk (.agg cs) cv):
  ∃ bg,cv=.agg bg/\bg.size=cs.length/\∀ j x,cs[j]?=some x->aw os w Z blk x (bg.getD j Go.undef):=by
 cases h with
 |cJ _ _ h=>cases h
 |agg _ bg h1 h2=>exact⟨bg,rfl,h1,h2⟩
def aw.QV{os:List Ob}{w:World}{Z:Nat->Prop}{blk:gd}{cs:List AV}{cv:Value}(h:aw os w Z blk (.bx cs) cv):
  ∃ bg,cv=.tuple bg/\bg.size=cs.length/\∀ j x,cs[j]?=some x->aw os w Z blk x (bg.getD j Go.undef):=by
 cases h with
 |cJ _ _ h=>cases h
 |bx _ bg h1 h2=>exact⟨bg,rfl,h1,h2⟩
def aw.Q9{os:List Ob}{w:World}{Z:Nat->Prop}{blk:gd}{f:FuncId}{cs:List AV}{cv:Value}(h:aw os w Z blk (.fn f cs) cv):
  ∃ bg,cv=.func (.func f) #[] bg/\bg.size=cs.length/\∀ j x,cs[j]?=some x->aw os w Z blk x (bg.getD j Go.undef):=by
 cases h with
 |cJ _ _ h=>cases h
 |fn _ _ bg h1 h2=>exact⟨bg,rfl,h1,h2⟩
def aw.Rb{os:List Ob}{w:World}{Z:Nat->Prop}{blk:gd}{t:TypeId}{v:AV}{cv:Value}(h:aw os w Z blk (.iv t v) cv):∃x,cv=.iface t x/\aw os w Z blk v x:=by
 cases h with
 |cJ _ _ h=>cases h
 |iv _ _ x h=>exact⟨x,rfl,h⟩
def iu.inv{w:World}{Z:Nat->Prop}{sz:Nat}{rows:List (List AV)}{cv:Value}(h:iu w Z (.tree sz rows) cv):
  (∃ a cap,rows=[]/\cv=.slice a 0 cap)\/∃ b o cap,∃ f:Nat->Nat->Value,cv=.slice (some ⟨b,o,none⟩) rows.length cap/\Z b/\(∀ row∈rows,row.length=sz)/\rows.length<=cap /\
   (∀ r c x,cellAt rows r c=some x->w.cell? ⟨b,o+(r*sz+c),none⟩=some (f r c))/\∀ r c x,cellAt rows r c=some x->iu w Z x (f r c):=by
 cases h with
 |nil _ cap a=>exact .inl ⟨a,cap,rfl,rfl⟩
 |tree _ _ b o cap f h1 h2 h3 h4 h5=>exact .inr ⟨b,o,cap,f,rfl,h1,h2,h3,h4,h5⟩
def iu.sub{w:World}{Z:Nat->Prop}{sz:Nat}{rows:List (List AV)}{b o cap cap':Nat}{f:Nat->Nat->Value}(hz:Z b)(hr:∀ row∈rows,row.length=sz)(hc:∀ r c x,cellAt rows r c=some x->w.cell? ⟨b,o+(r*sz+c),none⟩=some (f r c))(ht:∀ r c x,cellAt rows r c=some x->iu w Z x (f r c))(lo n:Nat)(hn:n<=cap')(_hcap:rows.length<=cap)(jt:lo+n<=rows.length):
  iu w Z (.tree sz ((rows.drop lo).take n)) (.slice (some ⟨b,o+lo*sz,none⟩) n cap'):=by
 have hlen:((rows.drop lo).take n).length=n:=Jo;have vc:∀ r c x,cellAt ((rows.drop lo).take n) r c=some x->cellAt rows (lo+r) c=some x:=by
  intro r c x hx;simp only[cellAt,uY,nM]at hx;split at hx
  ·exact hx
  ·simp at hx
 have:=iu.tree (w:=w) (Z:=Z) sz ((rows.drop lo).take n) b (o+lo*sz) cap' (λr c=>f (lo+r) c) hz (λrow h=>hr row (List.mem_of_mem_drop (List.mem_of_mem_take h))) CZ
  (λr c x hx=>by
   have h1:=hc _ _ _ (vc r c x hx);rw[eT]at h1;have e:o+(lo*sz+r*sz+c)=o+lo*sz+(r*sz+c):=CZ;rw[e]at h1;exact h1) (λr c x hx=>ht _ _ _ (vc r c x hx))
 rw[hlen]at this;exact this
def F6{o:Oper}{σ:St}{γ:Cx}{a:Act}{K:St->Prop}(h:bk σ γ)(ha:γ.tmps=a.tmps)(hd:∀ d,o.dst=some d->d<a.tmps.size){ob:Ob}{cur:Array Value}{t:TypeId}{cap:Nat}(bK:sJ σ.aa γ.w γ.Z γ.blk 0 cap cur ob){v:AV}{cv:Value}(hv:aw (σ.aa++[ob]) (γ.w.alloc (.cells cur t)) γ.Z (cT γ.blk σ.aa.length (some (γ.w.heap.size,0,cap))) v cv)(hK:K (({ σ with aa:=σ.aa++[ob] }:St).put o.dst v)){r:Result Next}(hr:r=.ok (.value cv) (γ.w.alloc (.cells cur t))):zt o σ γ a K r :=
 Bl (σ1:={ σ with aa:=σ.aa++[ob] }) (γ1:={ γ with w:=γ.w.alloc (.cells cur t),blk:=cT γ.blk σ.aa.length (some (γ.w.heap.size,0,cap)) })
  (Fr.push (t:=t) (cur:=cur) ob rfl rfl rfl rfl) (h.push (t:=t) (cur:=cur) rfl bK) ha hd hv hK hr
def sK(ents:List (Value×Value)):(cL ents).toList=ents.mapIdx λi p=>(⟨p.1,p.2,i⟩:MapEntry):=by simp[cL]
def Ki(L:List (Value×Value))(p:Value×Value):(cL L).push ⟨p.1,p.2,L.length⟩=cL (L++[p]):=by
 apply Array.toList_inj.1;rw[Array.toList_push,sK,sK,List.mapIdx_append];simp
def F7(L:List (Value×Value))(i:Nat)(f:MapEntry->MapEntry)(p:Value×Value)(hf:∀ q,L[i]?=some q->f ⟨q.1,q.2,i⟩=⟨p.1,p.2,i⟩):(cL L).modify i f=cL (L.set i p):=by
 apply Array.ext_getElem?;intro j;rw[Array.getElem?_modify];simp only[cL,List.getElem?_toArray,List.getElem?_mapIdx,bU];by_cases h:i=j
 ·subst h;rw[if_pos rfl,if_pos rfl];cases hq:L[i]? with
  |none =>
   have:¬ i<L.length:=by
    have:=List.getElem?_eq_none_iff.1 hq;omega
   simp[this]
  |some q =>
   have:i<L.length:=(aT.1 hq).1;simp[this,hf q hq]
 ·rw[if_neg h,if_neg h]
def qo(ag:Nat)(f:Nat->Value)(L:List (List Int×AV)):(cY ag f L).length=L.length:=by unfold cY;simp
def ue(ag:Nat)(f:Nat->Value)(L:List (List Int×AV))(j:Nat):(cY ag f L)[j]?=(L[j]?).map λp=>(kV ag p.1,f j):=by unfold cY;simp
def zu{l:List Int}:∀ {L:List (List Int×AV)} {i j:Nat},iz l L i=some j->i<=j/\∃ v,L[j-i]?=some (l,v)
 |[],_,_,h=>by cases h
 |p::r,i,j,h=>by
  rw[iz]at h;split at h
  ·rename_i hp;cases h;exact⟨aU _,p.2,by rw[iq];simp[<- hp]⟩
  ·obtain⟨h1,v,h2⟩:=zu h;have e:j-i=(j-(i+1))+1:=CZ;exact⟨CZ,v,by rw[e,List.getElem?_cons_succ];exact h2⟩
def Di{σ:St}{γ:Cx}(h:bk σ γ){v:AV}{cv:Value}(hv:aw σ.aa γ.w γ.Z γ.blk v cv){id ag:Nat}{L:List (List Int×AV)}(hm:lI σ v=some (id,ag,L)):
  v=.db id/\σ.aa[id]?=some (.mp ag L)/\∃ b,∃ f:Nat->Value,γ.blk id=some (b,0,0)/\cv=.map (some b)/\γ.w.heap[b]?=some (.map (cL (cY ag f L)) L.length)/\(∀ p∈L,p.1.length=kd ag)/\∀ (j:Nat) p,L[j]?=some p->aw σ.aa γ.w γ.Z γ.blk p.2 (f j):=by
 unfold lI at hm;split at hm
 ·rename_i nZ;split at hm
  ·rename_i iR L' ho;simp only[cy.injEq,Prod.mk.injEq]at hm;obtain⟨rfl,rfl,rfl⟩:=hm;obtain⟨b,f,h1,h2,h3,h4⟩:=h.dz _ _ ho;cases hv with
   |cJ _ _ h=>cases h
   |qc _ _ h' _=>rw[ho]at h';simp at h'
   |db _ b' _ _ h' hb =>
    rw[h1]at hb;simp only[cy.injEq,Prod.mk.injEq,and_true]at hb;subst hb;exact⟨rfl,ho,b,f,h1,rfl,h2,h3,h4⟩
  ·cases hm
 ·cases hm
def Kj{os:List Ob}{w:World}{Z:Nat->Prop}{blk:gd}{v:AV}{cv:Value}(hv:aw os w Z blk v cv){ag:Nat}{l:List Int}(hk:keyOf v=some (ag,l))(hl:l.length=kd ag):cv=kV ag l:=by
 unfold keyOf at hk;split at hk
 ·simp only[cy.injEq,Prod.mk.injEq]at hk;obtain⟨rfl,rfl⟩:=hk;rw[hv.cz];rfl
 ·rename_i cs;cases hi:oX cs with
  |none=>simp[hi]at hk
  |some as =>
   simp only[hi,im,cy.injEq,Prod.mk.injEq]at hk;obtain⟨rfl,rfl⟩:=hk;have:=Kk hv hi;rw[this];unfold kd at hl;unfold kV;by_cases h0:as.length=0
   ·rw[if_pos h0]at hl;omega
   ·rw[if_neg h0]
 ·cases hk
def aeD{t:TypeId}{ag:Nat}(uf:jl P t ag){z:Value}{w:World}(hz:∀ kt et,P.underlying t=some (.map kt et)->(zeroValue et).run P w=.ok z w){b:Nat}{f:Nat->Value}{L:List (List Int×AV)}(hb:w.heap[b]?=some (.map (cL (cY ag f L)) L.length))(hL:∀ p∈L,p.1.length=kd ag){l:List Int}(hl:l.length=kd ag):
  (Instr.lookup t (.map (some b)) (kV ag l) false).run P w=.ok (((iz l L 0).map f).getD z) w:=by
 obtain⟨kt,et,ht,hk⟩:=uf;obtain⟨h1,h2,h3⟩:=hk l hl;simp only[Instr.lookup,Sem.run_bind,run_underlying ht,MapKept.run_getObj_map hb,h1,h3 f L w hL,Result.andThen_ok,Sem.run_pure];cases h:iz l L 0 with
 |none=>simp[hz kt et ht]
 |some q=>simp
def aeE{t:TypeId}{ag:Nat}(uf:jl P t ag){w:World}{b:Nat}{f:Nat->Value}{L:List (List Int×AV)}(hb:w.heap[b]?=some (.map (cL (cY ag f L)) L.length))(hL:∀ p∈L,p.1.length=kd ag){l:List Int}(hl:l.length=kd ag)(v:AV)(cv:Value):
  ∃ f':Nat->Value,(Instr.mapUpdate t (.map (some b)) (kV ag l) cv).run P w=.ok () { w with heap:=w.heap.setIfInBounds b (.map (cL (cY ag f' (eU l v L))) (eU l v L).length) } /\
   (∀ p∈eU l v L,p.1.length=kd ag)/\∀ (j:Nat) p,(eU l v L)[j]?=some p->(p.2=v/\f' j=cv)\/(L[j]?=some p/\f' j=f j):=by
 obtain⟨kt,et,ht,hk⟩:=uf;obtain⟨h1,h2,h3⟩:=hk l hl;simp only[Instr.mapUpdate,Sem.run_bind,run_underlying ht,MapKept.run_getObj_map hb,h1,h3 f L w hL,Result.andThen_ok];unfold eU;cases h:iz l L 0 with
 |none =>
  refine⟨λj=>if j=L.length then cv else f j,?_,λp hp=>?_,λj p hp=>?_⟩
  ·have e:=Ki (cY ag f L) (kV ag l,cv);rw[qo]at e;have e2:cY ag f L++[(kV ag l,cv)]=cY ag (λj=>if j=L.length then cv else f j) (L++[(l,v)]):=by
    unfold cY;rw[List.mapIdx_append];congr 1
    ·apply OT
     ·simp
     ·intro j h5 h6;have:j<L.length:=by simpa using h5
      simp[ns this]
    ·simp
   simp only[pS,MapKept.run_setObj_map _ hb,e,e2,bI,CT]
  ·rcases da.1 hp with hp|hp
   ·exact hL p hp
   ·rw[dI.1 hp];exact hl
  ·rcases dw j L.length with hj|hj
   ·rw[er hj]at hp;exact .inr ⟨hp,by dsimp only;rw[if_neg CZ]⟩
   ·rw[gN hj]at hp;have:j=L.length:=by
     have:=(aT.1 hp).1;simp at this;omega
    subst this;simp only[iq,uV,cy.injEq]at hp;subst hp;exact .inl ⟨rfl,by dsimp only;rw[if_pos rfl]⟩
 |some q =>
  obtain⟨_,u,hu⟩:=zu h;rw[tJ]at hu;have hq:=(aT.1 hu).1;refine⟨λj=>if j=q then cv else f j,?_,λp hp=>?_,λj p hp=>?_⟩
  ·have Dj:(((cL (cY ag f L))[q]?).map (·.key)).getD (kV ag l)=kV ag l:=by
    simp[cL,ue,hu]
   have e:=F7 (cY ag f L) q (λe=>{ e with key:=kV ag l,val:=cv }) (kV ag l,cv) (λ_ _=>rfl);have e2:(cY ag f L).set q (kV ag l,cv)=cY ag (λj=>if j=q then cv else f j) (L.set q (l,v)):=by
    apply pR;intro j;rw[bU,ue,ue,bU,qo];by_cases hj:q=j
    ·subst hj;simp[hq]
    ·rw[if_neg hj,if_neg hj,if_neg (Ne.symm hj)]
   simp only[im,Dj,h2,Result.andThen_ok,MapKept.run_setObj_map _ hb,Sem.run_bind];rw[e,e2,bH]
  ·rcases tK hp with hp|hp
   ·exact hL p hp
   ·rw[hp];exact hl
  ·simp only[bU]at hp;by_cases hj:q=j
   ·subst hj;rw[if_pos rfl,if_pos hq]at hp;cases hp;exact .inl ⟨rfl,by dsimp only;rw[if_pos rfl]⟩
   ·rw[if_neg hj]at hp;exact .inr ⟨hp,by dsimp only;rw[if_neg (Ne.symm hj)]⟩
def bk.wrR{σ:St}{γ:Cx}(h:bk σ γ){id:Nat}{ob ob':Ob}(ho:σ.aa[id]?=some ob)(hg:ob≠.gone)(jS:ob.dO ob'){b o cap:Nat}(hb:γ.blk id=some (b,o,cap)){w':World}(mw:∀ k,k≠b->w'.heap[k]?=γ.w.heap[k]?):∀ v cv,aw σ.aa γ.w γ.Z γ.blk v cv->aw (σ.aa.set id ob') w' γ.Z γ.blk v cv:=by
 have bV:id<σ.aa.length:=(aT.1 ho).1;have ke:Live σ.aa id:=⟨ob,ho,hg⟩;exact λv cv hv =>
  hv.mono (λz hz=>⟨hz,mw z (λe=>h.nz b ⟨id,o,cap,ke,hb⟩ (e▸hz))⟩) (λi x hx=>by
   rw[bU];by_cases mT:id=i
   ·subst mT;rw[ho]at hx;simp at hx;subst hx;right;refine⟨rfl,ob',by simp[bV],jS⟩
   ·rw[if_neg mT];by_cases cG:x=.gone
    ·subst cG;exact .inl hx
    ·exact .inr ⟨rfl,x,hx,Ob.jr cG⟩)
def aeG{t:TypeId}{ag:Nat}(uf:jl P t ag){z:Value}{w:World}(hz:∀ kt et,P.underlying t=some (.map kt et)->(zeroValue et).run P w=.ok z w){b:Nat}{f:Nat->Value}{L:List (List Int×AV)}(hb:w.heap[b]?=some (.map (cL (cY ag f L)) L.length))(hL:∀ p∈L,p.1.length=kd ag){l:List Int}(hl:l.length=kd ag):
  ∃ f':Nat->Value,(Instr.mapEntry t (.map (some b)) (kV ag l)).run P w=.ok (.tuple #[((iz l L 0).map f).getD z,.int .i64 (A5 l L:Nat)]) { w with heap:=w.heap.setIfInBounds b (.map (cL (cY ag f' (eU l ((mn l L).getD (.lit z)) L))) (eU l ((mn l L).getD (.lit z)) L).length) } /\
   (∀ p∈eU l ((mn l L).getD (.lit z)) L,p.1.length=kd ag)/\∀ (j:Nat) p,(eU l ((mn l L).getD (.lit z)) L)[j]?=some p->(p.2=(mn l L).getD (.lit z)/\f' j=((iz l L 0).map f).getD z)\/(L[j]?=some p/\f' j=f j):=by
 obtain⟨kt,et,ht,hk⟩:=uf;obtain⟨h1,h2,h3⟩:=hk l hl;generalize hv:(mn l L).getD (.lit z)=v;simp only[Instr.mapEntry,Sem.run_bind,run_underlying ht,MapKept.run_getObj_map hb,h1,h3 f L w hL,Result.andThen_ok];unfold eU A5;cases h:iz l L 0 with
 |none =>
  refine⟨λj=>if j=L.length then z else f j,?_,λp hp=>?_,λj p hp=>?_⟩
  ·have e:=Ki (cY ag f L) (kV ag l,z);rw[qo]at e;have e2:cY ag f L++[(kV ag l,z)]=cY ag (λj=>if j=L.length then z else f j) (L++[(l,v)]):=by
    unfold cY;rw[List.mapIdx_append];congr 1
    ·apply OT
     ·simp
     ·intro j h5 h6;have:j<L.length:=by simpa using h5
      simp[ns this]
    ·simp
   simp only[pS,hz kt et ht,Result.andThen_ok,MapKept.run_setObj_map _ hb,Sem.run_bind,e,e2,bI,CT,Sem.run_pure,Option.getD_none,goInt]
  ·rcases da.1 hp with hp|hp
   ·exact hL p hp
   ·rw[dI.1 hp];exact hl
  ·rcases dw j L.length with hj|hj
   ·rw[er hj]at hp;exact .inr ⟨hp,by dsimp only;rw[if_neg CZ]⟩
   ·rw[gN hj]at hp;have:j=L.length:=by
     have:=(aT.1 hp).1;simp at this;omega
    subst this;simp only[iq,uV,cy.injEq]at hp;subst hp;exact .inl ⟨rfl,by dsimp only;rw[if_pos rfl];rfl⟩
 |some q =>
  obtain⟨_,u,hu⟩:=zu h;rw[tJ]at hu;have hq:=(aT.1 hu).1;refine⟨f,?_,λp hp=>?_,λj p hp=>?_⟩
  ·have Dj:(((cL (cY ag f L))[q]?).map (·.key)).getD (kV ag l)=kV ag l:=by
    simp[cL,ue,hu]
   have aeH:(((cL (cY ag f L))[q]?).map (λe=>(e.born:Int))).getD 0=(q:Int):=by
    simp[cL,ue,hu]
   have e:=F7 (cY ag f L) q (λe=>{ e with key:=kV ag l }) (kV ag l,f q) (λx hx=>by
    rw[ue,hu]at hx;cases hx;rfl)
   have e2:(cY ag f L).set q (kV ag l,f q)=cY ag f (L.set q (l,v)):=by
    apply pR;intro j;rw[bU,ue,ue,bU,qo];by_cases hj:q=j
    ·subst hj;simp[hq]
    ·rw[if_neg hj,if_neg hj]
   simp only[im,Dj,h2,Result.andThen_ok,MapKept.run_setObj_map _ hb,Sem.run_bind,Sem.run_pure,aeH,pQ,goInt];rw[e,e2,bH]
  ·rcases tK hp with hp|hp
   ·exact hL p hp
   ·rw[hp];exact hl
  ·simp only[bU]at hp;by_cases hj:q=j
   ·subst hj;rw[if_pos rfl,if_pos hq]at hp;cases hp;exact .inl ⟨rfl,rfl⟩
   ·rw[if_neg hj]at hp;exact .inr ⟨hp,rfl⟩
def aeI(ents:List (Value×Value)){n:Nat}(hn:n<ents.length):(cL ents).findIdx? (λe=>(e.born:Int)==(n:Int))=some n:=by
 unfold cL;rw[List.findIdx?_toArray,List.findIdx?_eq_some_iff_getElem];refine⟨by simpa using hn,Fl,λj hj=>?_⟩;simp only[List.getElem_mapIdx];simp;omega
def aeJ{t:TypeId}{ag:Nat}{w:World}{b:Nat}{f:Nat->Value}{L:List (List Int×AV)}(hb:w.heap[b]?=some (.map (cL (cY ag f L)) L.length)){n:Nat}(hn:n<L.length)(v:AV)(cv:Value):
  (Instr.entryStore t (.map (some b)) (.int .i64 (n:Nat)) cv).run P w=.ok () { w with heap:=w.heap.setIfInBounds b (.map (cL (cY ag (λj=>if j=n then cv else f j) (pZ n v L))) (pZ n v L).length) }:=by
 have hf:=aeI (cY ag f L) (n:=n) (by rw[qo];exact hn);have e:=F7 (cY ag f L) n (λe=>{ e with val:=cv }) (kV ag (L.getD n ([],.undef)).1,cv) (λx hx=>by
  rw[ue,bS hn]at hx;cases hx;rw[az,bS hn];rfl)
 have e2:(cY ag f L).set n (kV ag (L.getD n ([],.undef)).1,cv)=cY ag (λj=>if j=n then cv else f j) (pZ n v L):=by
  unfold pZ;apply pR;intro j;rw[bU,ue,ue,bU,qo];by_cases hj:n=j
  ·subst hj;simp[hn]
  ·rw[if_neg hj,if_neg hj,if_neg (Ne.symm hj)]
 simp only[Instr.entryStore,Sem.run_bind,MapKept.run_getObj_map hb,asInt,asIntOf,Sem.run_pure,Result.andThen_ok,hf,MapKept.run_setObj_map _ hb];rw[e,e2];simp[pZ]
def Kl{P:Program}{t:TypeId}(h:(ty P t).kind=8):∃kt,P.underlying t=some (.map kt (ty P t).elem):=by
 unfold ty at h ⊢;cases hi:P.info? t<;>cases hd:P.underlying t<;>simp[hi,hd]at h ⊢;rename_i i d;cases d<;>simp at h ⊢
def aei{o:Oper}{σ:St}{K:St->Prop}(hW:b9 P o σ K){γ:Cx}(h:bk σ γ){a:Act}(ha:γ.tmps=a.tmps)(hd:∀ d,o.dst=some d->d<a.tmps.size):
  zt o σ γ a K ((execOp a.eval o).run P γ.w):=by
 obtain⟨dst,op,type,pos,after,guard⟩:=o;unfold b9 at hW;have E:=λx=>sF h ha x;cases op
 case move x=>exact c8 h ha hd (E x) hW (by simp[execOp])
 case assign x=>exact c8 h ha hd (E x) hW (by simp[execOp])
 case pick c x y =>
  simp only at hW;have hc:=E c;split at hW
  ·rename_i t he;rw[he]at hc;have aR:=hc.cz;refine c8 h ha hd (v:=fR t (ev σ x) (ev σ y)) (cv:=if t then a.eval x else a.eval y) ?_ hW (by simp[execOp,aR,asBool]);unfold fR;split
   ·rename_i x' y' h1 h2;have hx:=E x;have hy:=E y;rw[h1]at hx;rw[h2]at hy;rw[hx.cz,hy.cz];cases t<;>exact .lit _
   ·cases t
    ·exact E y
    ·exact E x
  ·exact hW.elim
 case alloc e =>
  simp only at hW;obtain⟨bc,hW⟩:=hW;split at hW
  ·rename_i z hz;obtain⟨v,hv,hvc⟩:=Ri bc hz γ.w;obtain⟨l1,l2⟩:=Km (os:=σ.aa) (w:=γ.w) (Z:=γ.Z) (blk:=γ.blk) z;refine F6 (ob:=.var (z.map .lit)) (v:=.ptr σ.aa.length 0 0) (cv:=.pointer (some ⟨γ.w.heap.size,0,none⟩)) (cap:=0) (cur:=z.toArray) (t:=e) h ha hd ⟨rfl,Fl,l2⟩ ?_ hW ?_
   ·exact .nx _ 0 _ 0 _ (Fp ..) (by simp[cT])
   ·simp[execOp,Instr.alloc,hv,newVar,newRow,hvc]
  ·exact hW.elim
 case box e x =>
  simp only at hW;obtain⟨hs,hK⟩:=hW;obtain⟨c1,c2,c3⟩:=Kn (E x) hs;refine F6 (ob:=.var (cellsOf (ev σ x))) (cv:=.pointer (some ⟨γ.w.heap.size,0,none⟩)) (cap:=0) (cur:=(a.eval x).cells) (t:=e) h ha hd ⟨rfl,c1,c2⟩ ?_ hK ?_
  ·exact .nx _ 0 _ 0 _ (Fp ..) (by simp[cT])
  ·simp[execOp,Instr.box,newVar,newRow]
 case build t parts =>
  simp only at hW;split at hW
  ·rename_i z hk hz;split at hW
   ·rename_i cs hf;obtain⟨⟨hs,hp⟩,hK⟩:=hW;obtain⟨cur,h1,h2⟩:=aeL h ha hk hz hf hs hp;exact c8 h ha hd h2 hK (by simp only[execOp,Sem.run_bind,h1,Result.andThen_ok,Sem.run_pure])
   ·exact hW.elim
  ·rename_i z hk hz;split at hW
   ·rename_i cs hf;obtain⟨⟨hs,hp⟩,hK⟩:=hW;obtain⟨cur,h1,h2⟩:=aeM h ha hk hz hf hs hp;exact c8 h ha hd h2 hK (by simp only[execOp,Sem.run_bind,h1,Result.andThen_ok,Sem.run_pure])
   ·exact hW.elim
  ·exact hW.elim
 case buildSlice t len parts =>
  simp only at hW;split at hW
  ·rename_i z hk hz;split at hW
   ·rename_i cs hf;obtain⟨⟨c7,h0,mU,aeN,hs⟩,hK⟩:=hW;have ht:=ug hk;obtain⟨i,d,hi,F8,uh,_,hzero⟩:=ui c7;obtain⟨zv,hzr,jo⟩:=Ri c7 hz γ.w;have F9:0<z.length:=by rw[mU];exact h0
    obtain⟨hl,hr⟩:=Ko h ha parts;obtain⟨cur,f1,f2⟩:=Ga (σ:=σ) (γ:=γ) _ _ _ _ cs hl hr (λp hp=>by
     simp only[List.mem_map]at hp;obtain⟨q,hq,rfl⟩:=hp;rw[List.all_eq_true]at hs;exact hs q hq) (Kq z len (len*(ty P (ty P t).elem).size) (by rw[mU]) F9) hf
    have anm:cs.length=len*(ty P (ty P t).elem).size:=by
     have:=Kq (os:=σ.aa) (w:=γ.w) (Z:=γ.Z) (blk:=γ.blk) z len (len*(ty P (ty P t).elem).size) (by rw[mU]) F9;have h1:∀ (parts:List (Nat×AV)) (cs q9:List AV) (place:Nat->Option (Nat×Nat)),mh place cs parts=some q9->q9.length=cs.length:=by
      intro parts
      induction parts with
      |nil=>intro cs q9 place h;simp[mh]at h;rw[h]
      |cons p parts ih =>
       intro cs q9 place h;obtain⟨i,v⟩:=p;simp only[mh]at h;split at h
       ·simp at h
       ·split at h
        ·rw[ih _ _ _ h,Kr]
        ·simp at h
     rw[h1 _ _ _ _ hf,<- this.1];simp
    have hmul:len*(ty P (ty P t).elem).size<=16777216:=aeN;have hlen:len<=maxLen:=by
     have:len*1<=len*(ty P (ty P t).elem).size:=Nat.mul_le_mul_left _ h0;unfold maxLen;omega
    have eG:(Instr.buildSlice t len (parts.map λ(i,x)=>(i,a.eval x))).run P γ.w=.ok (.slice (some ⟨γ.w.heap.size,0,none⟩) len len) (γ.w.alloc (.cells cur (ty P t).elem)):=by
     have dE:¬ (len*(ty P (ty P t).elem).size > 2^24):=CZ;by_cases hl0:len*(ty P (ty P t).elem).size=0
     ·rw[hl0]at f1;have e0:((Jh 0).map λx=>(#[]:Array Value)[x%(#[]:Array Value).size]!)=((Jh 0).map (z.toArray[· % z.toArray.size]!)):=Fl;simp only[Instr.buildSlice,Sem.run_bind,run_underlying ht,Result.andThen_ok,run_sizeOf c7,if_false,hl0,if_true,Sem.run_pure,Nat.not_lt_zero,gt_iff_lt];rw[e0,f1];simp[newRow]
     simp only[Instr.buildSlice,Sem.run_bind,run_underlying ht,Result.andThen_ok,run_sizeOf c7,dE,if_false,hl0,hzr,Sem.run_pure,jo];rw[show((Jh (len*(ty P (ty P t).elem).size)).map λx=>z.toArray[x%z.toArray.size]!)=((Jh (len*(ty P (ty P t).elem).size)).map (z.toArray[· % z.toArray.size]!)) from rfl,f1];simp[newRow]
    refine F6 (ob:=.arr (ty P (ty P t).elem).size (mj (ty P (ty P t).elem).size len cs)) (cv:=.slice (some ⟨γ.w.heap.size,0,none⟩) len len) (cap:=len) (cur:=cur) (t:=(ty P t).elem) h ha hd ?_ ?_ hK ?_
    ·refine⟨h0,Rj _ _ _ CZ,by rw[f2.1];omega,by rw[Ks];omega,hlen,?_⟩;intro r c v hv;rw[gq];exact f2.2 _ _ (Rk _ _ _ _ _ _ hv)
    ·have:=aw.ref (os:=σ.aa++[.arr (ty P (ty P t).elem).size (mj (ty P (ty P t).elem).size len cs)]) (w:=γ.w.alloc (.cells cur (ty P t).elem)) (Z:=γ.Z) (blk:=cT γ.blk σ.aa.length (some (γ.w.heap.size,0,len)))
      σ.aa.length (ty P (ty P t).elem).size 0 len γ.w.heap.size 0 len len _ (by simp;rfl) (by simp[cT]) (by rw[Ks];omega) CZ (aU _)
     simpa using this
    ·simp only[execOp,Sem.run_bind,eG,Result.andThen_ok,Sem.run_pure]
   ·exact hW.elim
  ·exact hW.elim
 case load t x =>
  simp only at hW;obtain⟨hk,hW⟩:=hW;have hx:=E x;split at hW
  ·rename_i id r c he;rw[he]at hx;split at hW
   ·rename_i row bR;obtain⟨v,pd,h1,h2,h3⟩:=J8 h hk hx bR hW;exact c8 h ha hd h2 h3 (by simp only[execOp,Sem.run_bind,h1,Result.andThen_ok,Sem.run_pure])
   ·exact hW.elim
  ·rename_i cells he;rw[he]at hx;obtain⟨v,pd,h1,h2,h3⟩:=aeP h hk hx hW;exact c8 h ha hd h2 h3 (by simp only[execOp,Sem.run_bind,h1,Result.andThen_ok,Sem.run_pure])
  ·exact hW.elim
 case store t x y =>
  simp only at hW;obtain⟨hk,hW⟩:=hW;have hx:=E x;split at hW
  ·rename_i id r c he;rw[he]at hx;split at hW
   ·rename_i row bR;obtain⟨hc,hK⟩:=hW;obtain⟨w',h1,h2,h3⟩:=aeQ h hk hx bR (E y) hc;exact Kt h3 h2 ha hd hK (by simp only[execOp,Sem.run_bind,h1,Result.andThen_ok,Sem.run_pure])
   ·exact hW.elim
  ·exact hW.elim
 case nilCheck x =>
  simp only at hW;have hx:=E x;split at hW
  ·rename_i id r c he;rw[he]at hx;cases ho:σ.aa[id]? with
   |none=>simp[ho]at hW
   |some ob =>
    have bO:ob≠.gone/\K (σ.put dst (.ptr id r c)):=by cases ob<;>simp[ho]at hW ⊢<;>exact hW
    have aR :∃ad,a.eval x=.pointer (some ad):=by
     rcases hx.Kf with h|⟨b,cap,cells,_,_,_,h⟩|⟨_,b,o,cap,rows,_,_,h⟩
     ·rw[ho]at h;simp at h;exact absurd h bO.1
     ·exact⟨_,h⟩
     ·exact⟨_,h⟩
    obtain⟨ad,aR⟩:=aR;exact c8 h ha hd hx bO.2 (by simp[execOp,aR])
  ·rename_i cells he;rw[he]at hx;have aR :∃ad,a.eval x=.pointer (some ad):=by
    obtain⟨b,o,f,h,_⟩:=hx.Kg;exact⟨_,h⟩
   obtain⟨ad,aR⟩:=aR;exact c8 h ha hd hx hW (by simp[execOp,aR])
  ·exact hW.elim
 case binOp op t x y yt =>
  simp only at hW;have hx:=E x;have hy:=E y;split at hW
  ·rename_i k p k' q he hf;rw[he]at hx;rw[hf]at hy;obtain⟨rfl,hW⟩:=hW;obtain⟨v,h1,h2⟩:=aeR (P:=P) hW t γ.w;refine c8 h ha hd (.lit v) h2 ?_;simp[execOp,hx.cz,hy.cz,eqGuard,h1]
  ·rename_i p q he hf;rw[he]at hx;rw[hf]at hy;obtain⟨hk,hW⟩:=hW;have ht:=aeS hk;split at hW
   ·refine c8 h ha hd (.lit _) hW ?_;simp[execOp,hx.cz,hy.cz,eqGuard,run_eql_bool γ.w t p q ht]
   ·refine c8 h ha hd (.lit _) hW ?_;simp[execOp,hx.cz,hy.cz,eqGuard,run_neq_bool γ.w t p q ht,bne]
   ·exact hW.elim
  ·rename_i sz rows he hf;rw[he]at hx;rw[hf]at hy;obtain⟨⟨hk,hr⟩,hW⟩:=hW;have ht:=ug hk;rcases hx.zm.inv with⟨ad,cap,rfl,aR⟩|⟨b,o,cap,f,aR,_⟩
   ·exact absurd hr Fl
   split at hW
   ·refine c8 h ha hd (.lit _) hW ?_;simp[execOp,aR,hy.cz,eqGuard,aeB γ.w t _ _ _ ht]
   ·refine c8 h ha hd (.lit _) hW ?_;simp[execOp,aR,hy.cz,eqGuard,aeC γ.w t _ _ _ ht]
   ·exact hW.elim
  ·rename_i ad n c he hf;rw[he]at hx;rw[hf]at hy;obtain⟨hk,hW⟩:=hW;have ht:=ug hk;split at hW
   ·refine c8 h ha hd (.lit _) hW ?_;simp[execOp,hx.cz,hy.cz,eqGuard,aez γ.w t _ _ _ _ ht]
   ·refine c8 h ha hd (.lit _) hW ?_;simp[execOp,hx.cz,hy.cz,eqGuard,aeA γ.w t _ _ _ _ ht]
   ·exact hW.elim
  ·rename_i cs ds he hf;rw[he]at hx;rw[hf]at hy;split at hW
   ·rename_i as bs Dk Ku;obtain⟨⟨hq,hlen,Bm⟩,hW⟩:=hW;have Rl:=Kk hx Dk;have zw:=Kk hy Ku;have heq:=hq γ.w as bs rfl hlen;split at hW
    ·refine c8 h ha hd (.lit _) hW ?_;simp only[execOp,Rl,zw,Sem.run_bind,run_eqGuard_agg γ.w _ _ _ _ _ _ Bm,run_eql_struct,heq,Result.andThen_ok,Sem.run_pure]
    ·refine c8 h ha hd (.lit _) hW ?_;simp only[execOp,Rl,zw,Sem.run_bind,run_eqGuard_agg γ.w _ _ _ _ _ _ Bm,run_neq_struct,heq,Result.andThen_ok,Sem.run_pure]
    ·exact hW.elim
   ·exact hW.elim
  ·exact hW.elim
 case unOp op t x =>
  simp only at hW;have hx:=E x;split at hW
  ·rename_i b he;rw[he]at hx;exact c8 h ha hd (.lit _) hW (by simp[execOp,hx.cz,Op.unary])
  ·rename_i k n he;rw[he]at hx;unfold tS at hW;split at hW
   ·exact c8 h ha hd (.lit _) hW (by simp[execOp,hx.cz,Op.unary,Op.intArith])
   ·exact c8 h ha hd (.lit _) hW.2 (by simp[execOp,hx.cz,Op.unary,Op.intArith,wQ hW.1])
  ·exact hW.elim
 case makeMap t r =>
  simp only at hW;obtain⟨⟨rfl,hk⟩,hK⟩:=hW;refine Bl (σ1:={ σ with aa:=σ.aa++[.mp (za P t) []] }) (γ1:={ γ with w:=γ.w.alloc (.map #[] 0),blk:=cT γ.blk σ.aa.length (some (γ.w.heap.size,0,0)) })
   (Fr.Dl (cap:=0) _ rfl rfl rfl rfl) (h.Dl (cap:=0) rfl λgu w' jQ hR hb hx=>⟨_,λ_=>Go.undef,hb,hx,Fl,Fl⟩) ha hd
   (v:=.db σ.aa.length) (cv:=.map (some γ.w.heap.size)) (.db _ _ _ _ (Fp ..) (by simp[cT])) hK ?_
  simp[execOp,Instr.makeMap,newObj,Sem.run]
 case lookup t x i ok =>
  simp only at hW;split at hW
  ·rename_i ag l id iR L z eC nB nC;obtain⟨⟨uf,rfl,hl,Gb,rfl⟩,hK⟩:=hW;obtain⟨kt,ht⟩:=Kl Gb;obtain⟨_,ho,b,f,hb,aR,iS,hL,lN⟩:=Di h (E x) nB;have Dm:=Kj (E i) eC hl;have hz:∀ Dp zx,P.underlying t=some (.map Dp zx)->(zeroValue zx).run P γ.w=.ok z γ.w:=by
    intro Dp zx h';rw[ht]at h';cases h';unfold zeroV at nC;split at nC
    ·rename_i ii hi;simp[zeroValue,typeInfo,hi,nC]
    ·cases nC
   have eG:=aeD (P:=P) uf hz iS hL hl;refine c8 (cv:=((iz l L 0).map f).getD z) h ha hd ?_ hK (by simp only[execOp,aR,Dm,Sem.run_bind,eG,Result.andThen_ok,Sem.run_pure]);unfold mn;cases hf:iz l L 0 with
   |none=>exact .lit z
   |some q =>
    obtain⟨_,u,hu⟩:=zu hf;rw[tJ]at hu;simp only[rT,hu,im,pQ];exact lN q _ hu
  ·exact hW.elim
 case mapUpdate t m k x =>
  simp only at hW;split at hW
  ·rename_i ag l id iR L eC nB;obtain⟨⟨uf,rfl,hl⟩,hK⟩:=hW;obtain⟨_,ho,b,f,hb,aR,iS,hL,lN⟩:=Di h (E m) nB;have Dm:=Kj (E k) eC hl;obtain⟨f',eG,Kv,gw⟩:=aeE (P:=P) uf iS hL hl (ev σ x) (a.eval x);have pg:b<γ.w.heap.size:=(mM.1 iS).1;refine Kt (σ1:={ σ with aa:=σ.aa.set id (.mp iR (eU l (ev σ x) L)) }) (γ1:={ γ with w:={ γ.w with heap:=γ.w.heap.setIfInBounds b (.map (cL (cY iR f' (eU l (ev σ x) L))) (eU l (ev σ x) L).length) } })
    (Fr.write (.mp iR (eU l (ev σ x) L)) ho Fl rfl hb (λk hk=>by simp[tL (Ne.symm hk)]) Fl rfl rfl rfl)
    (h.Gc (ob':=.mp iR (eU l (ev σ x) L)) ho Fl rfl hb (λk hk=>by simp[tL (Ne.symm hk)]) Fl λgu hR=>⟨b,f',hb,by simp[pg],Kv,λj p hp=>?_⟩) ha hd hK ?_
   ·rcases gw j p hp with⟨h1,h2⟩|⟨h1,h2⟩
    ·rw[h1,h2];exact hR _ _ (E x)
    ·rw[h2];exact hR _ _ (lN j p h1)
   ·simp only[execOp,aR,Dm,Sem.run_bind,eG,Result.andThen_ok,Sem.run_pure]
  ·exact hW.elim
 case mapEntry t m k =>
  simp only at hW;split at hW
  ·rename_i ag l id iR L z eC nB nC;obtain⟨⟨uf,rfl,hl,Gb⟩,hK⟩:=hW;obtain⟨kt,ht⟩:=Kl Gb;obtain⟨_,ho,b,f,hb,aR,iS,hL,lN⟩:=Di h (E m) nB;have Dm:=Kj (E k) eC hl;have hz:∀ Dp zx,P.underlying t=some (.map Dp zx)->(zeroValue zx).run P γ.w=.ok z γ.w:=by
    intro Dp zx h';rw[ht]at h';cases h';unfold zeroV at nC;split at nC
    ·rename_i ii hi;simp[zeroValue,typeInfo,hi,nC]
    ·cases nC
   obtain⟨f',eG,Kv,gw⟩:=aeG (P:=P) uf hz iS hL hl;have pg:b<γ.w.heap.size:=(mM.1 iS).1;have hold:aw σ.aa γ.w γ.Z γ.blk ((mn l L).getD (.lit z)) (((iz l L 0).map f).getD z):=by
    unfold mn;cases hf:iz l L 0 with
    |none=>exact .lit z
    |some q =>
     obtain⟨_,u,hu⟩:=zu hf;rw[tJ]at hu;simp only[rT,hu,im,pQ];exact lN q _ hu
   generalize (mn l L).getD (.lit z)=v at *;generalize ((iz l L 0).map f).getD z=cv at *;have hR0:∀ x y,aw σ.aa γ.w γ.Z γ.blk x y->aw (σ.aa.set id (.mp iR (eU l v L))) { γ.w with heap:=γ.w.heap.setIfInBounds b (.map (cL (cY iR f' (eU l v L))) (eU l v L).length) } γ.Z γ.blk x y :=
    h.wrR (ob':=.mp iR (eU l v L)) ho Fl rfl hb (λk hk=>by simp[tL (Ne.symm hk)])
   refine Bl (σ1:={ σ with aa:=σ.aa.set id (.mp iR (eU l v L)) }) (γ1:={ γ with w:={ γ.w with heap:=γ.w.heap.setIfInBounds b (.map (cL (cY iR f' (eU l v L))) (eU l v L).length) } })
    (Fr.write (.mp iR (eU l v L)) ho Fl rfl hb (λk hk=>by simp[tL (Ne.symm hk)]) Fl rfl rfl rfl)
    (h.Gc (ob':=.mp iR (eU l v L)) ho Fl rfl hb (λk hk=>by simp[tL (Ne.symm hk)]) Fl λgu hR=>⟨b,f',hb,by simp[pg],Kv,λj p hp=>?_⟩) ha hd
    (v:=.bx [v,OJ (A5 l L:Nat)]) (cv:=.tuple #[cv,.int .i64 (A5 l L:Nat)]) (.bx _ _ rfl λj x hx=>?_) hK ?_
   ·rcases gw j p hp with⟨h1,h2⟩|⟨h1,h2⟩
    ·rw[h1,h2];exact hR _ _ hold
    ·rw[h2];exact hR _ _ (lN j p h1)
   ·match j,hx with
    |0,hx=>cases hx;exact hR0 _ _ hold
    |1,hx=>cases hx;exact .lit _
   ·simp only[execOp,aR,Dm,Sem.run_bind,eG,Result.andThen_ok,Sem.run_pure]
  ·exact hW.elim
 case entryStore t m s x =>
  simp only at hW;split at hW
  ·rename_i n id ag L hs nB;obtain⟨⟨kx,o8⟩,hK⟩:=hW;obtain⟨_,ho,b,f,hb,aR,iS,hL,lN⟩:=Di h (E m) nB;have Rm:=E s;rw[hs]at Rm;have ln:=Rm.cz;have hn:n=((n.toNat:Nat):Int):=CZ;have eG:=aeJ (P:=P) (t:=t) iS (n:=n.toNat) CZ (ev σ x) (a.eval x);rw[<- hn]at eG;have pg:b<γ.w.heap.size:=(mM.1 iS).1;refine Kt (σ1:={ σ with aa:=σ.aa.set id (.mp ag (pZ n.toNat (ev σ x) L)) }) (γ1:={ γ with w:={ γ.w with heap:=γ.w.heap.setIfInBounds b (.map (cL (cY ag (λj=>if j=n.toNat then a.eval x else f j) (pZ n.toNat (ev σ x) L))) (pZ n.toNat (ev σ x) L).length) } })
    (Fr.write (.mp ag (pZ n.toNat (ev σ x) L)) ho Fl rfl hb (λk hk=>by simp[tL (Ne.symm hk)]) Fl rfl rfl rfl)
    (h.Gc (ob':=.mp ag (pZ n.toNat (ev σ x) L)) ho Fl rfl hb (λk hk=>by simp[tL (Ne.symm hk)]) Fl λgu hR=>⟨b,λj=>if j=n.toNat then a.eval x else f j,hb,by simp only[Array.getElem?_setIfInBounds_self_of_lt pg],λp hp=>?_,λj p hp=>?_⟩) ha hd hK ?_
   ·unfold pZ at hp;rcases tK hp with hp|hp
    ·exact hL p hp
    ·have og:n.toNat<L.length:=CZ;rw[hp,az,bS og];exact hL L[n.toNat] (List.getElem_mem og)
   ·unfold pZ at hp;simp only[bU]at hp;by_cases hj:n.toNat=j
    ·subst hj;rw[if_pos rfl,if_pos CZ]at hp;cases hp;dsimp only;rw[if_pos rfl];exact hR _ _ (E x)
    ·rw[if_neg hj]at hp;dsimp only;rw[if_neg (Ne.symm hj)];exact hR _ _ (lN j p hp)
   ·simp only[execOp,aR,ln,Sem.run_bind,eG,Result.andThen_ok,Sem.run_pure]
  ·exact hW.elim
 case index t x i =>
  simp only at hW;split at hW
  ·rename_i s k n hs hi;obtain⟨⟨hu,kx,o8⟩,hK⟩:=hW;have hx:=E x;rw[hs]at hx;have hj:=E i;rw[hi]at hj;have ba:n.toNat<s.size:=CZ;have hg:s[n.toNat]?=some s[n.toNat]:=by simp[ba]
   refine c8 h ha hd (.lit _) hK ?_;simp only[execOp,hx.cz,hj.cz,Instr.index,asIntOf,Sem.run_bind,Sem.run_pure,Result.andThen_ok,run_underlying hu,if_pos kx,hg,JA]
  ·exact hW.elim
 case makeInterface t x =>
  simp only at hW;obtain⟨h1,hK⟩:=hW;refine c8 h ha hd (v:=.iv t (ev σ x)) (cv:=.iface t (a.eval x)) (.iv _ _ _ (E x)) hK ?_;unfold zb at h1;cases hu:P.underlying t with
  |none=>simp[hu]at h1
  |some d=>cases d<;>simp[hu]at h1<;>simp[execOp,Instr.makeInterface,run_underlying hu]
 case typeAssert x xt asserted ok =>
  simp only at hW;have hx:=E x;split at hW
  ·rename_i t v he;rw[he]at hx;obtain⟨cx,hc,hv⟩:=hx.Rb;obtain⟨⟨h1,rfl,rfl⟩,hK⟩:=hW;refine c8 h ha hd hv hK ?_;unfold zb at h1;cases hu:P.underlying t with
   |none=>simp[hu]at h1
   |some d=>cases d<;>simp[hu]at h1<;>simp[execOp,hc,Instr.typeAssert,run_underlying hu]
  ·exact hW.elim
 case makeFunc fn first captured =>
  simp only at hW;split at hW
  ·rename_i f;obtain⟨hf,hK⟩:=hW;have hfe:first = #[]:=Array.eq_empty_of_size_eq_zero hf
   subst hfe;refine c8 h ha hd (v:=.fn f (captured.toList.map (ev σ))) (cv:=.func (.func f) #[] (captured.map a.eval)) ?_ hK (by simp[execOp,Instr.makeFunc]);refine .fn _ _ _ Fl (λj x hj=>?_);simp only[bY]at hj;cases hc:captured.toList[j]? with
   |none=>simp[hc]at hj
   |some y =>
    simp[hc]at hj;subst hj;simp only[CS]at hc;simp[ep,hc];exact E y
  ·exact hW.elim
 case makeSlice t l c =>
  simp only at hW;have hl:=E l;have hc:=E c;split at hW
  ·rename_i z k n k' n' hk hz he hf;rw[he]at hl;rw[hf]at hc;obtain⟨⟨c7,h0,mU,rfl,kx,o8,Dq,_⟩,hK,_⟩:=hW;have ht:=ug hk;obtain⟨i,d,hi,F8,uh,Dr,hzero⟩:=ui c7;obtain⟨zv,zy,jo⟩:∃zv,i.zero=some zv/\zv.cells=z.toArray:=by
    rw[hzero]at hz;cases hv:i.zero with
    |none=>simp[hv]at hz
    |some v=>simp[hv]at hz;exact⟨v,rfl,by rw[<- hz]⟩
   have hb:(i.bytes:Int)*n'<=281474976710656:=by
    have h1:(i.bytes:Int)<=128:=by rw[<- Dr];exact_mod_cast Dq
    have h2:(i.bytes:Int)*n'<=128*n':=Int.mul_le_mul_of_nonneg_right h1 kx;omega
   have hr:=run_make (P:=P) γ.w t _ i zv ht hi zy k k' n' n' kx (Int.le_refl _) hb CZ;rw[<- uh,jo]at hr;have F9:0<z.length:=by rw[mU];exact h0
   obtain⟨z1,z2⟩:=Kq (os:=σ.aa) (w:=γ.w) (Z:=γ.Z) (blk:=γ.blk) z n'.toNat (n'.toNat*(ty P (ty P t).elem).size) (by rw[mU]) F9;refine F6 (ob:=.arr (ty P (ty P t).elem).size (aI n'.toNat (z.map .lit))) (cv:=.slice (some ⟨γ.w.heap.size,0,none⟩) n'.toNat n'.toNat) (cap:=n'.toNat) (cur:=madeCells z.toArray (n'.toNat*(ty P (ty P t).elem).size)) (t:=(ty P t).elem) h ha hd ?_ ?_ hK ?_
   ·refine⟨h0,?_,by rw[size_madeCells];omega,Fl,by unfold maxLen;omega,?_⟩
    ·intro row bR;simp only[List.mem_replicate]at bR;rw[bR.2];simp[mU]
    ·intro r c v hv;rw[gq];have cr:r<n'.toNat:=by
      simp only[cellAt,Option.bind_eq_some_iff]at hv;obtain⟨y,hy,_⟩:=hv;have:=(aT.1 hy).1;simpa using this
     simp only[cellAt,List.getElem?_replicate,cr,if_true,rT]at hv;have bz:c<(ty P (ty P t).elem).size:=by
      have:=(aT.1 hv).1;simp at this;omega
     have ba:=zn cr bz;have hx:((aY n'.toNat).flatMap λ_=>z.map AV.lit)[r*(ty P (ty P t).elem).size+c]?=some v:=by
      have key:∀ (m r:Nat),r<m->((aY m).flatMap λ_=>z.map AV.lit)[r*z.length+c]?=(z.map AV.lit)[c]?:=by
       intro m;have hlen:∀ m,((aY m).flatMap λ_=>z.map AV.lit).length=m*z.length:=by
        intro m
        induction m with
        |zero=>simp
        |succ m ih=>rw[tM,tN,bI,ih];simp[eT]
       induction m with
       |zero=>intro r hr;omega
       |succ m ih =>
        intro r hr;rw[tM,tN];by_cases ya:r<m
        ·rw[er (by rw[hlen,mU];exact zn ya bz)];exact ih r ya
        ·have:r=m:=CZ;subst this;rw[gN (by rw[hlen];omega),hlen];simp
      rw[<- mU,key _ _ cr];exact hv
     exact z2 _ _ hx
   ·have:=aw.ref (os:=σ.aa++[.arr (ty P (ty P t).elem).size (aI n'.toNat (z.map .lit))]) (w:=γ.w.alloc (.cells (madeCells z.toArray (n'.toNat*(ty P (ty P t).elem).size)) (ty P t).elem)) (Z:=γ.Z) (blk:=cT γ.blk σ.aa.length (some (γ.w.heap.size,0,n'.toNat)))
     σ.aa.length (ty P (ty P t).elem).size 0 n'.toNat γ.w.heap.size 0 n'.toNat n'.toNat _ (Fp ..) (by simp[cT]) Fl CZ (aU _)
    simpa using this
   ·simp only[execOp,Sem.run_bind,hl.cz,hc.cz,hr,Result.andThen_ok,Sem.run_pure]
  ·exact hW.elim
 case fieldAddr s x f =>
  simp only at hW;have hx:=E x;split at hW
  ·rename_i off ft size hk iL;obtain⟨aO,hW⟩:=hW;obtain⟨fs,hu,iM⟩:=Kw hk;obtain⟨fd,Gd,zd,Bn⟩:∃fd:Field,fs[f]?=some fd/\fd.offset=off/\wR P fd.type=size:=by
    rw[iM]at iL;simp only[bY,CS]at iL;cases hg:fs[f]? with
    |none=>simp[hg]at iL
    |some fd=>simp[hg]at iL;exact⟨fd,rfl,iL.1,iL.2.2⟩
   have eG:∀ (b o:Nat),(Instr.fieldAt s (.pointer (some ⟨b,o,none⟩)) f).run P γ.w=.ok (.pointer (some ⟨b,o+off,none⟩)) γ.w:=by
    intro b o;have Kx:(sizeOf fd.type).run P γ.w=.ok size γ.w:=by
     rw[<- Bn];unfold wR at Bn ⊢;cases hi:P.info? fd.type with
     |none=>rw[hi]at Bn;simp at Bn;omega
     |some i=>simp[sizeOf,typeInfo,hi]
    have bX:¬ size=0:=CZ;simp[Instr.fieldAt,run_underlying hu,Gd,Instr.sureAddr,fieldPlace,Kx,bX,Addr.rj,zd]
   split at hW
   ·rename_i id r c he;rw[he]at hx;cases ho:σ.aa[id]? with
    |none=>simp[ho]at hW
    |some ob =>
     have bO:ob≠.gone/\K (σ.put dst (.ptr id r (c+off))):=by cases ob<;>simp[ho]at hW ⊢<;>exact hW
     rcases hx.Kf with hg|⟨b,cap,cells,h1,h2,rfl,aR⟩|⟨sz,b,o,cap,rows,h1,h2,aR⟩
     ·rw[ho]at hg;simp at hg;exact absurd hg bO.1
     ·exact c8 h ha hd (.nx id (c+off) b cap cells h1 h2) bO.2 (by simp only[execOp,Sem.run_bind,aR,eG,Result.andThen_ok,Sem.run_pure])
     ·refine c8 h ha hd (.oa id r (c+off) sz b o cap rows h1 h2) bO.2 ?_;simp only[execOp,Sem.run_bind,aR,eG,Result.andThen_ok,Sem.run_pure];simp[uZ]
   ·rename_i cells he;rw[he]at hx;obtain⟨b,o,g,aR,h1,h2,h3⟩:=hx.Kg;refine c8 h ha hd (.cj (cells.drop off) b (o+off) (λj=>g (off+j)) h1 ?_ ?_) hW ?_
    ·intro j x hj;rw[nM]at hj;have:=h2 _ _ hj;simpa [uZ] using this
    ·intro j x hj;rw[nM]at hj;exact h3 _ _ hj
    ·simp only[execOp,Sem.run_bind,aR,eG,Result.andThen_ok,Sem.run_pure]
   ·exact hW.elim
  ·exact hW.elim
 case extract x i =>
  simp only at hW;have hx:=E x;split at hW
  ·rename_i vs he;rw[he]at hx;obtain⟨bg,aR,hs,hr⟩:=hx.QV;split at hW
   ·rename_i v hv;have hi:i<bg.size:=by rw[hs];exact(aT.1 hv).1
    refine c8 h ha hd (hr i v hv) hW ?_;simp[execOp,aR,Instr.extract,hi,ep]
   ·exact hW.elim
  ·exact hW.elim
 case field s x f =>
  simp only at hW;have hx:=E x;split at hW
  ·rename_i off ft size hk iL;obtain⟨c7,uh,hW⟩:=hW;obtain⟨fs,hu,iM⟩:=Kw hk;obtain⟨fd,Gd,zd,Bn⟩:∃fd:Field,fs[f]?=some fd/\fd.offset=off/\fd.type=ft:=by
    rw[iM]at iL;simp only[bY,CS]at iL;cases hg:fs[f]? with
    |none=>simp[hg]at iL
    |some fd=>simp[hg]at iL;exact⟨fd,rfl,iL.1,iL.2.1⟩
   subst zd;subst Bn;split at hW
   ·rename_i cs he;rw[he]at hx;obtain⟨bg,aR,hs,hr⟩:=hx.QU;split at hW
    ·rename_i lP;refine c8 h ha hd (v:=.agg ((cs.drop fd.offset).take size)) (cv:=.agg (bg.extract fd.offset (fd.offset+size))) ?_ hW.2 ?_
     ·have h1:=hW.1;refine .agg _ _ Jo (λj y hj=>?_);have gF:j<size:=by have:=(aT.1 hj).1;simp at this;omega
      rw[uY,if_pos gF,nM]at hj;have:=hr _ _ hj;simp[ep,Array.getElem?_extract]at this ⊢;rw[if_pos CZ];exact this
     ·simp[execOp,aR,Instr.field,run_underlying hu,Gd,asAgg,part,Ky c7,run_sizeOf c7,lP,uh]
    ·rename_i lP;split at hW
     ·rename_i v hv;have hi:fd.offset<bg.size:=by rw[hs];exact(aT.1 hv).1
      refine c8 h ha hd (hr _ v hv) hW ?_;simp[execOp,aR,Instr.field,run_underlying hu,Gd,asAgg,part,Ky c7,lP,hi,ep]
     ·exact hW.elim
   ·exact hW.elim
  ·exact hW.elim
 case indexAddr t x i =>
  simp only at hW;have hx:=E x;have hi:=E i;split at hW
  ·rename_i id sz off len k n hk he hf;rw[he]at hx;rw[hf]at hi;split at hW
   ·rename_i cR rows ho;obtain⟨⟨rfl,aO,c7,h0,h1⟩,hK⟩:=hW;have ht:=ug hk;rcases hx.Kh with hg|⟨_,_,_,rfl,_⟩|⟨rfl,_⟩|⟨b,o,cap,cap',gD,g1,g2,g3,g4,g5,aR⟩
    ·rw[ho]at hg;simp at hg
    ·omega
    ·omega
    ·refine c8 h ha hd (.oa id (off+n.toNat) 0 _ b o cap gD g1 g2) hK ?_;have hc:0<=n/\n<(len:Int):=⟨h0,h1⟩;simp only[execOp,Sem.run_bind,Instr.indexAt,aR,hi.cz,asIntOf,Sem.run_pure,Result.andThen_ok,run_underlying ht,Sem.run_ite,hc,and_self,if_true,run_sizeOf c7,<- aO,Addr.rj];simp[eT,uZ]
   ·exact hW.elim
  ·rename_i sz rows k n hk he hf;rw[he]at hx;rw[hf]at hi;obtain⟨⟨aO,c7,h0,h1⟩,hK⟩:=hW;have ht:=ug hk;rcases hx.zm.inv with⟨ad,cap,rfl,aR⟩|⟨b,o,cap,f,aR,g1,g2,g3,g4,g5⟩
   ·simp at h1;omega
   ·have hn:n.toNat<rows.length:=CZ;refine c8 h ha hd (.cj (rows.getD n.toNat []) b (o+n.toNat*sz) (λj=>f n.toNat j) g1 ?_ ?_) hK ?_
    ·intro j y hj;have:cellAt rows n.toNat j=some y:=by
      rw[az]at hj;simp[hn]at hj;simp[cellAt,hn,hj]
     have:=g4 _ _ _ this;simpa [uZ] using this
    ·intro j y hj;have:cellAt rows n.toNat j=some y:=by
      rw[az]at hj;simp[hn]at hj;simp[cellAt,hn,hj]
     exact g5 _ _ _ this
    ·have hc:0<=n/\n<(rows.length:Int):=⟨h0,CZ⟩;simp only[execOp,Sem.run_bind,Instr.indexAt,aR,hi.cz,asIntOf,Sem.run_pure,Result.andThen_ok,run_underlying ht,Sem.run_ite,hc,and_self,if_true,run_sizeOf c7,<- aO,Addr.rj]
  ·rename_i id r c k n hk he hf;rw[he]at hx;rw[hf]at hi;cases ho:σ.aa[id]? with
   |none=>simp[ho]at hW
   |some ob =>
    have bO:ob≠.gone/\((ty P (ty P t).elem).kind≠99/\0<=n/\n<(ty P t).len)/\K (σ.put dst (.ptr id r (c+n.toNat*(ty P (ty P t).elem).size))):=by cases ob<;>simp[ho]at hW ⊢<;>exact hW
    obtain⟨uj,⟨c7,h0,h1⟩,hK⟩:=bO;have ht:=Kz hk;have hc:0<=n/\n<((ty P t).len:Int):=⟨h0,h1⟩;rcases hx.Kf with hg|⟨b,cap,cells,h1,h2,rfl,aR⟩|⟨sz,b,o,cap,rows,h1,h2,aR⟩
    ·rw[ho]at hg;simp at hg;exact absurd hg uj
    ·refine c8 h ha hd (.nx id _ b cap cells h1 h2) hK ?_;simp only[execOp,Sem.run_bind,Instr.indexAt,aR,hi.cz,asIntOf,Sem.run_pure,Result.andThen_ok,run_underlying ht,Instr.sureAddr,Sem.run_ite,hc,and_self,if_true,run_sizeOf c7,Addr.rj]
    ·refine c8 h ha hd (.oa id r _ sz b o cap rows h1 h2) hK ?_;simp only[execOp,Sem.run_bind,Instr.indexAt,aR,hi.cz,asIntOf,Sem.run_pure,Result.andThen_ok,run_underlying ht,Instr.sureAddr,Sem.run_ite,hc,and_self,if_true,run_sizeOf c7,Addr.rj];simp[uZ]
  ·rename_i cells k n hk he hf;rw[he]at hx;rw[hf]at hi;obtain⟨⟨c7,h0,h1⟩,hK⟩:=hW;have ht:=Kz hk;have hc:0<=n/\n<((ty P t).len:Int):=⟨h0,h1⟩;obtain⟨b,o,g,aR,g1,g2,g3⟩:=hx.Kg;refine c8 h ha hd (.cj (cells.drop (n.toNat*(ty P (ty P t).elem).size)) b (o+n.toNat*(ty P (ty P t).elem).size) (λj=>g (n.toNat*(ty P (ty P t).elem).size+j)) g1 ?_ ?_) hK ?_
   ·intro j x hj;rw[nM]at hj;rw[uZ];exact g2 _ _ hj
   ·intro j x hj;rw[nM]at hj;exact g3 _ _ hj
   ·simp only[execOp,Sem.run_bind,Instr.indexAt,aR,hi.cz,asIntOf,Sem.run_pure,Result.andThen_ok,run_underlying ht,Instr.sureAddr,Sem.run_ite,hc,and_self,if_true,run_sizeOf c7,Addr.rj]
  ·exact hW.elim
 case slice t x lo hi mx =>
  simp only at hW;obtain⟨hk,c7,rfl,hW⟩:=hW;have ht:=ug hk;have hx:=E x;have eG:∀ (ad:Option Addr) (len cap l h:Nat) (lo hi:Option Value),(lo=none/\l=0\/∃ k,lo=some (.int k (l:Int)))->(hi=none/\h=len\/∃ k,hi=some (.int k (h:Int)))->l<=h->h<=cap ->
    (ty P (ty P t).elem).kind≠99->(Instr.sliceAt t (.slice ad len cap) lo hi none).run P γ.w=.ok (.slice (if cap=l then ad else ad.map (·.add (l*(ty P (ty P t).elem).size))) (h-l) (cap-l)) γ.w:=by
   intro ad len cap l h lo hi jt oo h1 h2 c7;have c1:(l:Int)<=h:=CZ;have c2:(h:Int)<=cap:=CZ;rcases jt with⟨rfl,rfl⟩|⟨k,rfl⟩<;>rcases oo with⟨rfl,rfl⟩|⟨k',rfl⟩ <;>
    simp[Instr.sliceAt,Instr.slice,Instr.sliceBounds,Instr.sliceBound,asIntOf,run_underlying ht,run_sizeOf c7,h1,h2]
  split at hW
  ·rename_i id sz off len he;rw[he]at hx;split at hW
   ·rename_i cR rows ho;obtain⟨rfl,aO,hW⟩:=hW;obtain⟨h0,cr,_⟩:=h.dz _ _ ho;have key:∀ (l hh:Nat) (mV aq:Option Operand),(mV.map a.eval=none/\l=0\/∃ k,mV.map a.eval=some (.int k (l:Int)))->(aq.map a.eval=none/\hh=len\/∃ k,aq.map a.eval=some (.int k (hh:Int)))->l<=hh->hh<=len ->
      K (σ.put dst (.ref id cR (off+l) (hh-l)))->zt ⟨dst,.slice t x mV aq none,type,pos,after,guard⟩ σ γ a K ((execOp a.eval ⟨dst,.slice t x mV aq none,type,pos,after,guard⟩).run P γ.w):=by
     intro l hh mV aq jt oo h1 h2 hK;rcases hx.Kh with hg|⟨g1,g2,rfl,rfl,aR⟩|⟨rfl,b,xx,bo,gD,g1,g2,g3,aR⟩|⟨b,o,cap,cap',gD,g1,g2,g3,g4,g5,aR⟩
     ·rw[ho]at hg;simp at hg
     ·have:l=0:=CZ;subst this;have:hh=0:=CZ;subst this;refine c8 (o:=⟨dst,.slice t x mV aq none,type,pos,after,guard⟩) h ha hd (.lL id _ g1 g2) hK ?_;have:=eG none 0 0 0 0 _ _ jt oo CZ CZ c7;simp only[execOp,Sem.run_bind,aR,pS,this,Result.andThen_ok,Sem.run_pure];simp
     ·have:l=0:=CZ;subst this;have:hh=0:=CZ;subst this;refine c8 (o:=⟨dst,.slice t x mV aq none,type,pos,after,guard⟩) h ha hd (.mo id _ _ b xx bo gD g1 g2 CZ) hK ?_;have:=eG (some ⟨b,xx,none⟩) 0 0 0 0 _ _ jt oo CZ CZ c7;simp only[execOp,Sem.run_bind,aR,pS,this,Result.andThen_ok,Sem.run_pure];simp
     ·have hr:=eG (some ⟨b,o+off*cR,none⟩) len cap' l hh _ _ jt oo h1 CZ c7;by_cases hm:cap'=l
      ·have e1:hh=l:=CZ;subst e1;rw[if_pos hm]at hr;have e2:hh-hh=0:=CZ;have e3:cap'-hh=0:=CZ;rw[e2,e3]at hr;rw[e2]at hK;refine c8 (o:=⟨dst,.slice t x mV aq none,type,pos,after,guard⟩) h ha hd (.mo id _ _ b (o+off*cR) (o,cap) gD g1 g2 CZ) hK ?_;simp only[execOp,Sem.run_bind,aR,pS,hr,Result.andThen_ok,Sem.run_pure]
      ·rw[if_neg hm]at hr;refine c8 (o:=⟨dst,.slice t x mV aq none,type,pos,after,guard⟩) h ha hd (.ref id _ (off+l) (hh-l) b o cap (cap'-l) gD g1 g2 CZ CZ CZ) hK ?_;simp only[execOp,Sem.run_bind,aR,pS,hr,Result.andThen_ok,Sem.run_pure,im,Addr.rj,<- aO];simp[eT,uZ]
    split at hW
    ·rename_i e1 e2;have jt:lo=none:=by cases lo<;>simp at e1 ⊢
     have oo:hi=none:=by cases hi<;>simp at e2 ⊢
     subst jt;subst oo;exact key 0 len none none (.inl ⟨rfl,rfl⟩) (.inl ⟨rfl,rfl⟩) CZ (aU _) (by simpa using hW)
    ·rename_i k l e1 e2;have oo:hi=none:=by cases hi<;>simp at e2 ⊢
     subst oo;obtain⟨lo,rfl,f1⟩:∃y,lo=some y/\ev σ y=.lit (.int k l):=by cases lo<;>simp at e1 ⊢;exact e1
     obtain⟨⟨c1,c2,_⟩,hK⟩:=hW;have hl:=E lo;rw[f1]at hl;refine key l.toNat len (some lo) none (.inr ⟨k,?_⟩) (.inl ⟨rfl,rfl⟩) CZ (aU _) hK;simp[hl.cz];omega
    ·rename_i k hh e1 e2;have jt:lo=none:=by cases lo<;>simp at e1 ⊢
     subst jt;obtain⟨hi,rfl,f2⟩:∃y,hi=some y/\ev σ y=.lit (.int k hh):=by cases hi<;>simp at e2 ⊢;exact e2
     obtain⟨⟨c1,c2⟩,hK⟩:=hW;have hl:=E hi;rw[f2]at hl;refine key 0 hh.toNat none (some hi) (.inl ⟨rfl,rfl⟩) (.inr ⟨k,?_⟩) CZ CZ (by simpa using hK);simp[hl.cz];omega
    ·rename_i k l k' hh e1 e2;obtain⟨lo,rfl,f1⟩:∃y,lo=some y/\ev σ y=.lit (.int k l):=by cases lo<;>simp at e1 ⊢;exact e1
     obtain⟨hi,rfl,f2⟩:∃y,hi=some y/\ev σ y=.lit (.int k' hh):=by cases hi<;>simp at e2 ⊢;exact e2
     obtain⟨⟨c1,c2,c3⟩,hK⟩:=hW;have hl:=E lo;have Ds:=E hi;rw[f1]at hl;rw[f2]at Ds;refine key l.toNat hh.toNat (some lo) (some hi) (.inr ⟨k,?_⟩) (.inr ⟨k',?_⟩) CZ CZ hK
     ·simp[hl.cz];omega
     ·simp[Ds.cz];omega
    ·exact hW.elim
   ·exact hW.elim
  ·rename_i sz rows he;rw[he]at hx;obtain⟨aO,hW⟩:=hW;have key:∀ (l hh:Nat) (mV aq:Option Operand),(mV.map a.eval=none/\l=0\/∃ k,mV.map a.eval=some (.int k (l:Int)))->(aq.map a.eval=none/\hh=rows.length\/∃ k,aq.map a.eval=some (.int k (hh:Int)))->l<=hh->hh<=rows.length ->
     K (σ.put dst (.tree sz ((rows.drop l).take (hh-l))))->zt ⟨dst,.slice t x mV aq none,type,pos,after,guard⟩ σ γ a K ((execOp a.eval ⟨dst,.slice t x mV aq none,type,pos,after,guard⟩).run P γ.w):=by
    intro l hh mV aq jt oo h1 h2 hK;rcases hx.zm.inv with⟨ad,cap,rfl,aR⟩|⟨b,o,cap,f,aR,g1,g2,g3,g4,g5⟩
    ·have e1:hh=0:=by simpa using h2
     subst e1;have e2:l=0:=CZ;subst e2;have hr:=eG ad 0 cap 0 0 _ _ jt oo CZ CZ c7;refine c8 (o:=⟨dst,.slice t x mV aq none,type,pos,after,guard⟩) h ha hd (v:=.tree sz (([].drop 0).take (0-0))) (cv:=.slice (if cap=0 then ad else ad.map (·.add (0*(ty P (ty P t).elem).size))) (0-0) (cap-0)) (.cJ _ _ (.nil sz (cap-0) _)) hK ?_;simp only[execOp,Sem.run_bind,aR,pS,hr,Result.andThen_ok,Sem.run_pure]
    ·have hr:=eG (some ⟨b,o,none⟩) rows.length cap l hh _ _ jt oo h1 CZ c7;by_cases ph:hh-l=0
     ·have e:(rows.drop l).take (hh-l)=[]:=by rw[ph];simp
      rw[e]at hK;rw[ph]at hr;refine c8 (o:=⟨dst,.slice t x mV aq none,type,pos,after,guard⟩) h ha hd (v:=.tree sz []) (cv:=.slice (if cap=l then some ⟨b,o,none⟩ else(some (⟨b,o,none⟩:Addr)).map (·.add (l*(ty P (ty P t).elem).size))) 0 (cap-l)) (.cJ _ _ (.nil sz (cap-l) _)) hK ?_;simp only[execOp,Sem.run_bind,aR,pS,hr,Result.andThen_ok,Sem.run_pure]
     ·have bX:¬ cap=l:=CZ;rw[if_neg bX]at hr;have aeV:rows≠[]:=by intro e;subst e;simp at h2;omega
      refine c8 (o:=⟨dst,.slice t x mV aq none,type,pos,after,guard⟩) h ha hd (.cJ _ _ (iu.sub g1 g2 g4 g5 l (hh-l) (cap':=cap-l) CZ g3 CZ)) hK ?_;simp only[execOp,Sem.run_bind,aR,pS,hr,Result.andThen_ok,Sem.run_pure,im,Addr.rj,<- aO aeV]
   split at hW
   ·rename_i e1 e2;have jt:lo=none:=by cases lo<;>simp at e1 ⊢
    have oo:hi=none:=by cases hi<;>simp at e2 ⊢
    subst jt;subst oo;exact key 0 rows.length none none (.inl ⟨rfl,rfl⟩) (.inl ⟨rfl,rfl⟩) CZ (aU _) (by simpa using hW)
   ·rename_i k l e1 e2;have oo:hi=none:=by cases hi<;>simp at e2 ⊢
    subst oo;obtain⟨lo,rfl,f1⟩:∃y,lo=some y/\ev σ y=.lit (.int k l):=by cases lo<;>simp at e1 ⊢;exact e1
    obtain⟨⟨c1,c2⟩,hK⟩:=hW;have hl:=E lo;rw[f1]at hl;refine key l.toNat rows.length (some lo) none (.inr ⟨k,?_⟩) (.inl ⟨rfl,rfl⟩) CZ (aU _) ?_
    ·simp[hl.cz];omega
    ·have e:(rows.drop l.toNat).take (rows.length-l.toNat)=rows.drop l.toNat:=List.take_of_length_le Fl;rw[e];exact hK
   ·rename_i k hh e1 e2;have jt:lo=none:=by cases lo<;>simp at e1 ⊢
    subst jt;obtain⟨hi,rfl,f2⟩:∃y,hi=some y/\ev σ y=.lit (.int k hh):=by cases hi<;>simp at e2 ⊢;exact e2
    obtain⟨⟨c1,c2⟩,hK⟩:=hW;have hl:=E hi;rw[f2]at hl;refine key 0 hh.toNat none (some hi) (.inl ⟨rfl,rfl⟩) (.inr ⟨k,?_⟩) CZ CZ (by simpa using hK);simp[hl.cz];omega
   ·rename_i k l k' hh e1 e2;obtain⟨lo,rfl,f1⟩:∃y,lo=some y/\ev σ y=.lit (.int k l):=by cases lo<;>simp at e1 ⊢;exact e1
    obtain⟨hi,rfl,f2⟩:∃y,hi=some y/\ev σ y=.lit (.int k' hh):=by cases hi<;>simp at e2 ⊢;exact e2
    obtain⟨⟨c1,c2,c3⟩,hK⟩:=hW;have hl:=E lo;have Ds:=E hi;rw[f1]at hl;rw[f2]at Ds;refine key l.toNat hh.toNat (some lo) (some hi) (.inr ⟨k,?_⟩) (.inr ⟨k',?_⟩) CZ CZ ?_
    ·simp[hl.cz];omega
    ·simp[Ds.cz];omega
    ·rw[<- List.drop_take];exact hK
   ·exact hW.elim
  ·exact hW.elim
 case call c =>
  obtain⟨callee,args,argTypes⟩:=c;have nt:∀ l,args.toList=l->args=l.toArray:=by intro l h;rw[<- h]
  have Ge:∀ l,argTypes.toList=l->argTypes=l.toArray:=by intro l h;rw[<- h]
  cases callee with
  |value f=>exact hW.elim
  |invoke r m=>exact hW.elim
  |builtin b =>
   cases b
   case len =>
    simp only at hW;split at hW
    ·rename_i x t bZ jP;have ea:=nt _ bZ;have et:=Ge _ jP;subst ea;subst et;have hx:=E x;have eG:(ty P t).kind=1->∀ ad n c,a.eval x=.slice ad n c->(execOp a.eval ⟨dst,.call ⟨.builtin .len,[x].toArray,[t].toArray⟩,type,pos,after,guard⟩).run P γ.w=.ok (.value (.int .i64 (n:Int))) γ.w:=by
      intro hk ad n c hc;have ht:=ug hk;simp[execOp,resolve,invoke,builtin,Builtin.len_,run_underlying ht,hc,goInt]
     split at hW
     ·rename_i id sz off len he;rw[he]at hx;obtain⟨hk,hW⟩:=hW;split at hW
      ·rename_i cR rows ho;rcases hx.Kh with hg|⟨_,_,_,rfl,aR⟩|⟨rfl,_,_,_,_,_,_,_,aR⟩|⟨b,o,cap,cap',gD,g1,g2,g3,g4,g5,aR⟩
       ·rw[ho]at hg;simp at hg
       ·exact c8 h ha hd (.lit _) hW.2 (eG hk _ _ _ aR)
       ·exact c8 h ha hd (.lit _) hW.2 (eG hk _ _ _ aR)
       ·exact c8 h ha hd (.lit _) hW.2 (eG hk _ _ _ aR)
      ·exact hW.elim
     ·rename_i sz rows he;rw[he]at hx;rcases hx.zm.inv with⟨ad,cap,rfl,aR⟩|⟨b,o,cap,f,aR,_⟩
      ·exact c8 h ha hd (.lit _) hW.2 (eG hW.1 _ _ _ aR)
      ·exact c8 h ha hd (.lit _) hW.2 (eG hW.1 _ _ _ aR)
     ·rename_i he;rw[he]at hx;exact c8 h ha hd (.lit _) hW.2 (eG hW.1 _ _ _ hx.cz)
     ·rename_i id he;obtain⟨hk,hW⟩:=hW;split at hW
      ·rename_i ag L ho;obtain⟨kt,ht⟩:=Kl hk;rw[he]at hx;obtain⟨_,_,b,f,hb,aR,iS,_⟩:=Di h hx (id:=id) (ag:=ag) (L:=L) (by simp[lI,ho]);refine c8 h ha hd (.lit _) hW ?_;simp[execOp,resolve,invoke,builtin,Builtin.len_,run_underlying ht,aR,goInt,MapKept.run_getObj_map iS,cL,qo]
      ·exact hW.elim
     ·exact hW.elim
    ·exact hW.elim
   case append =>
    simp only at hW;split at hW
    ·rename_i s x t t' bZ jP;have ea:=nt _ bZ;have et:=Ge _ jP;subst ea;subst et;split at hW
     ·rename_i z pre σ1 sz src hk hz mS qm;obtain⟨⟨rfl,c7,aO,h0,mU,hlen,Dq,rm⟩,hK⟩:=hW;have aeW:lj σ sz (ev σ s)=some (pre,σ1):=by rw[aO];exact mS
      obtain⟨pd,γ1,h1,h2,h3,h4,h5⟩:=aeX (P:=P) (oty:=type) h hk c7 hz aO h0 mU (E s) (E x) aeW qm hlen Dq rm;refine Bl (γ1:=γ1) h4 h3 (by rw[h2];exact ha) hd h5 hK ?_;simp[execOp,resolve,invoke,builtin,h1]
     ·exact hW.elim
    ·exact hW.elim
   case min =>
    simp only at hW;split at hW
    ·rename_i x y bZ;have ea:=nt _ bZ;subst ea;have hx:=E x;have hy:=E y;split at hW
     ·rename_i k p k' q he hf;rw[he]at hx;rw[hf]at hy;obtain⟨rfl,hK⟩:=hW;refine c8 h ha hd (.lit _) hK ?_;have e:(if q<p then q else p)=min p q:=by simp only[Int.min_def];split<;>split<;>omega
      simp[execOp,resolve,invoke,builtin,Builtin.min_,Builtin.min2,hx.cz,hy.cz,e]
     ·exact hW.elim
    ·exact hW.elim
   case max =>
    simp only at hW;split at hW
    ·rename_i x y bZ;have ea:=nt _ bZ;subst ea;have hx:=E x;have hy:=E y;split at hW
     ·rename_i k p k' q he hf;rw[he]at hx;rw[hf]at hy;obtain⟨rfl,hK⟩:=hW;refine c8 h ha hd (.lit _) hK ?_;have e:(if q > p then q else p)=max p q:=by simp only[Int.max_def];split<;>split<;>omega
      simp[execOp,resolve,invoke,builtin,Builtin.max_,Builtin.max2,hx.cz,hy.cz,e]
     ·exact hW.elim
    ·exact hW.elim
   case copy =>
    simp only at hW;split at hW
    ·rename_i s x t t' bZ jP;have ea:=nt _ bZ;have et:=Ge _ jP;subst ea;subst et;have hs:=E s;split at hW
     ·rename_i id sz off len cR src he qm;rw[he]at hs;split at hW
      ·rename_i kN rows ho;obtain⟨⟨hk,c7,rfl,rfl,aO,h0,rm⟩,hK⟩:=hW;obtain⟨w',h1,h2,h3⟩:=aeY (P:=P) (t':=t') (oty:=type) h hk c7 aO h0 hs (E x) ho qm rm;refine Bl (γ1:={ γ with w:=w' }) h3 h2 ha hd (.lit _) hK ?_;simp[execOp,resolve,invoke,builtin,h1]
      ·exact hW.elim
     ·exact hW.elim
    ·exact hW.elim
   case clear =>
    simp only at hW;split at hW
    ·rename_i s t bZ jP;have ea:=nt _ bZ;have et:=Ge _ jP;subst ea;subst et;have hs:=E s;split at hW
     ·rename_i id sz off len z he hz;rw[he]at hs;split at hW
      ·rename_i cR rows ho;obtain⟨⟨hk,c7,rfl,mU,h0,wS⟩,hK⟩:=hW;obtain⟨w',h1,h2,h3⟩:=aeZ (P:=P) (oty:=type) h hk c7 mU h0 hz wS hs ho;refine Bl (γ1:={ γ with w:=w' }) h3 h2 ha hd (.lit _) hK ?_;simp[execOp,resolve,invoke,builtin,h1]
      ·exact hW.elim
     ·exact hW.elim
    ·exact hW.elim
   all_goals exact hW.elim
 case convert s d x =>
  simp only at hW;have hx:=E x;split at hW
  ·rename_i k k' n ud he;rw[he]at hx;obtain⟨hu,hK⟩:=hW;obtain⟨u,hu⟩:=Option.isSome_iff_exists.1 hu;refine c8 h ha hd (.lit _) hK ?_;simp[execOp,convert,run_underlying hu,run_underlying ud,hx.cz,Conv.intToInt]
  ·exact hW.elim
 all_goals exact hW.elim
end Go.Am

