import Derived.Test.YtfoopmojjjpapaaGreatX02
import Derived.MapKept
import Derived.Laws.StructEq
set_option linter.all false
set_option maxHeartbeats 0
set_option maxRecDepth 20000
open List renaming getElem?_take→w5,getElem?_drop→oa,getElem?_set→bU,getElem?_eq_some_iff→aY,length_append→bN,length_singleton→yv,mem_append→cG,mem_singleton→cS,getElem?_append_left→fe,getElem?_append_right→iq,getElem?_cons_zero→wZ,ext_getElem?→lq,length_set→bJ,mem_or_eq_of_mem_set→sW,getElem?_eq_getElem→bx,getD_eq_getElem?_getD→ay,getElem?_concat_length→Hb,getElem?_map→bM,replicate→aK,range→bn,range_succ→uc,flatMap_append→sX
open Nat renaming add_mul→gn,le_refl→aZ,sub_self→jC,ne_of_lt→oR,lt_or_ge→dT,sub_zero→w6,zero_add→gR,add_assoc→w7
open Option renaming some→cH,map_some→fc,map_none→rH,getD_some→lR,bind_some→tX
open Array renaming range→KP,getElem?_eq_some_iff→nA,getElem?_setIfInBounds_ne→vC,getElem?_toList→Ex,getD_eq_getD_getElem?→eU
namespace Go.Am
def agf{P:Program}(w:World)(t e:TypeId)(a:Option Addr)(n c:Nat)(ht:P.underlying t=some (.slice e)):
  (binOp .eql t (.slice a n c) (.slice none 0 0)).run P w=.ok (.bool a.isNone) w:=by
 have h:∀ d:Nat,(Op.equalIn (d+1) t (.slice a n c) (.slice none 0 0)).run P w=.ok a.isNone w:=λd=>by
  cases a<;>simp[Op.equalIn,run_underlying ht]
 simp only[binOp];simp[Op.equal,Op.maxDepth,h 9999]
def agh{P:Program}(w:World)(t e:TypeId)(a:Option Addr)(n c:Nat)(ht:P.underlying t=some (.slice e)):
  (binOp .neq t (.slice a n c) (.slice none 0 0)).run P w=.ok (.bool (!a.isNone)) w:=by
 have h:∀ d:Nat,(Op.equalIn (d+1) t (.slice a n c) (.slice none 0 0)).run P w=.ok a.isNone w:=λd=>by
  cases a<;>simp[Op.equalIn,run_underlying ht]
 simp only[binOp];simp[Op.equal,Op.maxDepth,h 9999]
variable {P:Program}
def agi(w:World)(t:TypeId){e:TypeId}(a:Addr)(n c:Nat)(ht:P.underlying t=some (.slice e)):
  (binOp .eql t (.slice (some a) n c) (.slice none 0 0)).run P w=.ok (.bool false) w:=by
 have h:∀ d:Nat,(Op.equalIn (d+1) t (.slice (some a) n c) (.slice none 0 0)).run P w=.ok false w:=λd=>by
  simp[Op.equalIn,run_underlying ht]
 simp only[binOp];simp[Op.equal,Op.maxDepth,h 9999]
def agj(w:World)(t:TypeId){e:TypeId}(a:Addr)(n c:Nat)(ht:P.underlying t=some (.slice e)):
  (binOp .neq t (.slice (some a) n c) (.slice none 0 0)).run P w=.ok (.bool true) w:=by
 have h:∀ d:Nat,(Op.equalIn (d+1) t (.slice (some a) n c) (.slice none 0 0)).run P w=.ok false w:=λd=>by
  simp[Op.equalIn,run_underlying ht]
 simp only[binOp];simp[Op.equal,Op.maxDepth,h 9999]
def aw.LX{os:List Ob}{w:World}{Z:Nat->Prop}{blk:gU}{id r c:Nat}{cv:Value}(h:aw os w Z blk (.ptr id r c) cv):
  os[id]?=some .gone\/(∃ b cap cells,os[id]?=some (.var cells)/\blk id=some (b,0,cap)/\r=0/\cv=.pointer (some ⟨b,c,none⟩)) \/
  (∃ sz b o cap rows,os[id]?=some (.arr sz rows)/\blk id=some (b,o,cap)/\cv=.pointer (some ⟨b,o+(r*sz+c),none⟩)):=by
 cases h with
 |cN _ _ h=>cases h
 |og _ _ _ _ h=>exact .inl h
 |oX _ _ b cap cells h hb=>exact .inr (.inl ⟨b,cap,cells,h,hb,rfl,rfl⟩)
 |pM _ _ _ sz b o cap rows h hb=>exact .inr (.inr ⟨sz,b,o,cap,rows,h,hb,rfl⟩)
def aw.LY{os:List Ob}{w:World}{Z:Nat->Prop}{blk:gU}{cells:List AV}{cv:Value}(h:aw os w Z blk (.b6 cells) cv):
  ∃ b o,∃ f:Nat->Value,cv=.pointer (some ⟨b,o,none⟩)/\Z b/\(∀ j x,cells[j]?=some x->w.cell? ⟨b,o+j,none⟩=some (f j))/\∀ j x,cells[j]?=some x->iT w Z x (f j):=by
 cases h with
 |cN _ _ h=>cases h
 |b6 _ b o f h1 h2 h3=>exact⟨b,o,f,rfl,h1,h2,h3⟩
def aw.LZ{os:List Ob}{w:World}{Z:Nat->Prop}{blk:gU}{id sz off len:Nat}{cv:Value}(h:aw os w Z blk (.ref id sz off len) cv):
  os[id]?=some .gone\/(os[id]?=some (.arr sz [])/\blk id=none/\off=0/\len=0/\cv=.slice none 0 0) \/
  (len=0/\∃ b x bo rows,os[id]?=some (.arr sz rows)/\blk id=some (b,bo)/\off<=rows.length/\cv=.slice (some ⟨b,x,none⟩) 0 0) \/
  (∃ b o cap cap' rows,os[id]?=some (.arr sz rows)/\blk id=some (b,o,cap)/\off+len<=rows.length/\off+cap'<=cap/\len<=cap'/\cv=.slice (some ⟨b,o+off*sz,none⟩) len cap'):=by
 cases h with
 |cN _ _ h=>cases h
 |lA _ _ _ _ _ h=>exact .inl h
 |ng _ _ h hb=>exact .inr (.inl ⟨h,hb,rfl,rfl,rfl⟩)
 |nJ _ _ _ b x bo rows h hb hl=>exact .inr (.inr (.inl ⟨rfl,b,x,bo,rows,h,hb,hl,rfl⟩))
 |ref _ _ _ _ b o cap cap' rows h hb hl hc j6=>exact .inr (.inr (.inr ⟨b,o,cap,cap',rows,h,hb,hl,hc,j6,rfl⟩))
def aw.SP{os:List Ob}{w:World}{Z:Nat->Prop}{blk:gU}{cs:List AV}{cv:Value}(h:aw os w Z blk (.agg cs) cv):
  ∃ bq,cv=.agg bq/\bq.size=cs.length/\∀ j x,cs[j]?=some x->aw os w Z blk x (bq.getD j Go.undef):=by
 cases h with
 |cN _ _ h=>cases h
 |agg _ bq h1 h2=>exact⟨bq,rfl,h1,h2⟩
def aw.SQ{os:List Ob}{w:World}{Z:Nat->Prop}{blk:gU}{cs:List AV}{cv:Value}(h:aw os w Z blk (.bC cs) cv):
  ∃ bq,cv=.tuple bq/\bq.size=cs.length/\∀ j x,cs[j]?=some x->aw os w Z blk x (bq.getD j Go.undef):=by
 cases h with
 |cN _ _ h=>cases h
 |bC _ bq h1 h2=>exact⟨bq,rfl,h1,h2⟩
def aw.S2{os:List Ob}{w:World}{Z:Nat->Prop}{blk:gU}{f:FuncId}{cs:List AV}{cv:Value}(h:aw os w Z blk (.fn f cs) cv):
  ∃ bq,cv=.func (.func f) #[] bq/\bq.size=cs.length/\∀ j x,cs[j]?=some x->aw os w Z blk x (bq.getD j Go.undef):=by
 cases h with
 |cN _ _ h=>cases h
 |fn _ _ bq h1 h2=>exact⟨bq,rfl,h1,h2⟩
def aw.S3{os:List Ob}{w:World}{Z:Nat->Prop}{blk:gU}{t:TypeId}{v:AV}{cv:Value}(h:aw os w Z blk (.iU t v) cv):∃x,cv=.iface t x/\aw os w Z blk v x:=by
 cases h with
 |cN _ _ h=>cases h
 |iU _ _ x h=>exact⟨x,rfl,h⟩
def iT.inv{w:World}{Z:Nat->Prop}{sz:Nat}{rows:List (List AV)}{cv:Value}(h:iT w Z (.tree sz rows) cv):
  (∃ a cap,rows=[]/\cv=.slice a 0 cap)\/∃ b o cap,∃ f:Nat->Nat->Value,cv=.slice (some ⟨b,o,none⟩) rows.length cap/\Z b/\(∀ row∈rows,row.length=sz)/\rows.length<=cap /\
   (∀ r c x,cellAt rows r c=some x->w.cell? ⟨b,o+(r*sz+c),none⟩=some (f r c))/\∀ r c x,cellAt rows r c=some x->iT w Z x (f r c):=by
 cases h with
 |nil _ cap a=>exact .inl ⟨a,cap,rfl,rfl⟩
 |tree _ _ b o cap f h1 h2 h3 h4 h5=>exact .inr ⟨b,o,cap,f,rfl,h1,h2,h3,h4,h5⟩
def iT.sub{w:World}{Z:Nat->Prop}{sz:Nat}{rows:List (List AV)}{b o cap cap':Nat}{f:Nat->Nat->Value}(hz:Z b)(hr:∀ row∈rows,row.length=sz)(hc:∀ r c x,cellAt rows r c=some x->w.cell? ⟨b,o+(r*sz+c),none⟩=some (f r c))(ht:∀ r c x,cellAt rows r c=some x->iT w Z x (f r c))(lo n:Nat)(hn:n<=cap')(_hcap:rows.length<=cap)(gI:lo+n<=rows.length):
  iT w Z (.tree sz ((rows.drop lo).take n)) (.slice (some ⟨b,o+lo*sz,none⟩) n cap'):=by
 have hlen:((rows.drop lo).take n).length=n:=Hj;have xg:∀ r c x,cellAt ((rows.drop lo).take n) r c=some x->cellAt rows (lo+r) c=some x:=by
  intro r c x hx;simp only[cellAt,w5,oa]at hx;split at hx
  ·exact hx
  ·simp at hx
 have:=iT.tree (w:=w) (Z:=Z) sz ((rows.drop lo).take n) b (o+lo*sz) cap' (λr c=>f (lo+r) c) hz (λrow h=>hr row (List.mem_of_mem_drop (List.mem_of_mem_take h))) Ey
  (λr c x hx=>by
   have h1:=hc _ _ _ (xg r c x hx);rw[gn]at h1;have e:o+(lo*sz+r*sz+c)=o+lo*sz+(r*sz+c):=Ey;rw[e]at h1;exact h1) (λr c x hx=>ht _ _ _ (xg r c x hx))
 rw[hlen]at this;exact this
def HO{o:Oper}{σ:St}{γ:Cx}{a:Act}{K:St->Prop}(h:bz σ γ)(ha:γ.tmps=a.tmps)(hd:∀ d,o.dst=some d->d<a.tmps.size){ob:Ob}{cur:Array Value}{t:TypeId}{cap:Nat}(bS:uC σ.aa γ.w γ.Z γ.blk 0 cap cur ob){v:AV}{cv:Value}(hv:aw (σ.aa++[ob]) (γ.w.alloc (.cells cur t)) γ.Z (dq γ.blk σ.aa.length (some (γ.w.heap.size,0,cap))) v cv)(hK:K (({ σ with aa:=σ.aa++[ob] }:St).put o.dst v)){r:Result Next}(hr:r=.ok (.value cv) (γ.w.alloc (.cells cur t))):Bk o σ γ a K r :=
 C' (σ1:={ σ with aa:=σ.aa++[ob] }) (γ1:={ γ with w:=γ.w.alloc (.cells cur t),blk:=dq γ.blk σ.aa.length (some (γ.w.heap.size,0,cap)) })
  (Fr.push (t:=t) (cur:=cur) ob rfl rfl rfl rfl) (h.push (t:=t) (cur:=cur) rfl bS) ha hd hv hK hr
def uD(ents:List (Value×Value)):(c9 ents).toList=ents.mapIdx λi p=>(⟨p.1,p.2,i⟩:MapEntry):=by simp[c9]
def L1(L:List (Value×Value))(p:Value×Value):(c9 L).push ⟨p.1,p.2,L.length⟩=c9 (L++[p]):=by
 apply Array.toList_inj.1;rw[Array.toList_push,uD,uD,List.mapIdx_append];simp
def HP(L:List (Value×Value))(i:Nat)(f:MapEntry->MapEntry)(p:Value×Value)(hf:∀ q,L[i]?=some q->f ⟨q.1,q.2,i⟩=⟨p.1,p.2,i⟩):(c9 L).modify i f=c9 (L.set i p):=by
 apply Array.ext_getElem?;intro j;rw[Array.getElem?_modify];simp only[c9,List.getElem?_toArray,List.getElem?_mapIdx,bU];by_cases h:i=j
 ·subst h;rw[if_pos rfl,if_pos rfl];cases hq:L[i]? with
  |none =>
   have:¬ i<L.length:=by
    have:=List.getElem?_eq_none_iff.1 hq;omega
   simp[this]
  |some q =>
   have:i<L.length:=(aY.1 hq).1;simp[this,hf q hq]
 ·rw[if_neg h,if_neg h]
def rV(ag:Nat)(f:Nat->Value)(L:List (List Int×AV)):(dy ag f L).length=L.length:=by unfold dy;simp
def vR(ag:Nat)(f:Nat->Value)(L:List (List Int×AV))(j:Nat):(dy ag f L)[j]?=(L[j]?).map λp=>(kV ag p.1,f j):=by unfold dy;simp
def Bl{l:List Int}:∀ {L:List (List Int×AV)} {i j:Nat},gX l L i=some j->i<=j/\∃ v,L[j-i]?=some (l,v)
 |[],_,_,h=>by cases h
 |p::r,i,j,h=>by
  rw[gX]at h;split at h
  ·rename_i hp;cases h;exact⟨aZ _,p.2,by rw[jC];simp[<- hp]⟩
  ·obtain⟨h1,v,h2⟩:=Bl h;have e:j-i=(j-(i+1))+1:=Ey;exact⟨Ey,v,by rw[e,List.getElem?_cons_succ];exact h2⟩
def EW{σ:St}{γ:Cx}(h:bz σ γ){v:AV}{cv:Value}(hv:aw σ.aa γ.w γ.Z γ.blk v cv){id ag:Nat}{L:List (List Int×AV)}(hm:mW σ v=some (id,ag,L)):
  v=.dD id/\σ.aa[id]?=some (.mp ag L)/\∃ b,∃ f:Nat->Value,γ.blk id=some (b,0,0)/\cv=.map (some b)/\γ.w.heap[b]?=some (.map (c9 (dy ag f L)) L.length)/\(∀ p∈L,p.1.length=kQ ag)/\∀ (j:Nat) p,L[j]?=some p->aw σ.aa γ.w γ.Z γ.blk p.2 (f j):=by
 unfold mW at hm;split at hm
 ·rename_i pK;split at hm
  ·rename_i jr L' ho;simp only[cH.injEq,Prod.mk.injEq]at hm;obtain⟨rfl,rfl,rfl⟩:=hm;obtain⟨b,f,h1,h2,h3,h4⟩:=h.ec _ _ ho;cases hv with
   |cN _ _ h=>cases h
   |rP _ _ h' _=>rw[ho]at h';simp at h'
   |dD _ b' _ _ h' hb =>
    rw[h1]at hb;simp only[cH.injEq,Prod.mk.injEq,and_true]at hb;subst hb;exact⟨rfl,ho,b,f,h1,rfl,h2,h3,h4⟩
  ·cases hm
 ·cases hm
def L3{os:List Ob}{w:World}{Z:Nat->Prop}{blk:gU}{v:AV}{cv:Value}(hv:aw os w Z blk v cv){ag:Nat}{l:List Int}(hk:keyOf v=some (ag,l))(hl:l.length=kQ ag):cv=kV ag l:=by
 unfold keyOf at hk;split at hk
 ·simp only[cH.injEq,Prod.mk.injEq]at hk;obtain⟨rfl,rfl⟩:=hk;rw[hv.cO];rfl
 ·rename_i cs;cases hi:qK cs with
  |none=>simp[hi]at hk
  |some as =>
   simp only[hi,fc,cH.injEq,Prod.mk.injEq]at hk;obtain⟨rfl,rfl⟩:=hk;have:=L4 hv hi;rw[this];unfold kQ at hl;unfold kV;by_cases h0:as.length=0
   ·rw[if_pos h0]at hl;omega
   ·rw[if_neg h0]
 ·cases hk
def agk{t:TypeId}{ag:Nat}(vS:jM P t ag){z:Value}{w:World}(hz:∀ kt et,P.underlying t=some (.map kt et)->(zeroValue et).run P w=.ok z w){b:Nat}{f:Nat->Value}{L:List (List Int×AV)}(hb:w.heap[b]?=some (.map (c9 (dy ag f L)) L.length))(hL:∀ p∈L,p.1.length=kQ ag){l:List Int}(hl:l.length=kQ ag):
  (Instr.lookup t (.map (some b)) (kV ag l) false).run P w=.ok (((gX l L 0).map f).getD z) w:=by
 obtain⟨kt,et,ht,hk⟩:=vS;obtain⟨h1,h2,h3⟩:=hk l hl;simp only[Instr.lookup,Sem.run_bind,run_underlying ht,MapKept.run_getObj_map hb,h1,h3 f L w hL,Result.andThen_ok,Sem.run_pure];cases h:gX l L 0 with
 |none=>simp[hz kt et ht]
 |some q=>simp
def agl{t:TypeId}{ag:Nat}(vS:jM P t ag){w:World}{b:Nat}{f:Nat->Value}{L:List (List Int×AV)}(hb:w.heap[b]?=some (.map (c9 (dy ag f L)) L.length))(hL:∀ p∈L,p.1.length=kQ ag){l:List Int}(hl:l.length=kQ ag)(v:AV)(cv:Value):
  ∃ f':Nat->Value,(Instr.mapUpdate t (.map (some b)) (kV ag l) cv).run P w=.ok () { w with heap:=w.heap.setIfInBounds b (.map (c9 (dy ag f' (fh l v L))) (fh l v L).length) } /\
   (∀ p∈fh l v L,p.1.length=kQ ag)/\∀ (j:Nat) p,(fh l v L)[j]?=some p->(p.2=v/\f' j=cv)\/(L[j]?=some p/\f' j=f j):=by
 obtain⟨kt,et,ht,hk⟩:=vS;obtain⟨h1,h2,h3⟩:=hk l hl;simp only[Instr.mapUpdate,Sem.run_bind,run_underlying ht,MapKept.run_getObj_map hb,h1,h3 f L w hL,Result.andThen_ok];unfold fh;cases h:gX l L 0 with
 |none =>
  refine⟨λj=>if j=L.length then cv else f j,?_,λp hp=>?_,λj p hp=>?_⟩
  ·have e:=L1 (dy ag f L) (kV ag l,cv);rw[rV]at e;have e2:dy ag f L++[(kV ag l,cv)]=dy ag (λj=>if j=L.length then cv else f j) (L++[(l,v)]):=by
    unfold dy;rw[List.mapIdx_append];congr 1
    ·apply List.ext_getElem
     ·simp
     ·intro j h5 h6;have:j<L.length:=by simpa using h5
      simp[oR this]
    ·simp
   simp only[rH,MapKept.run_setObj_map _ hb,e,e2,bN,yv]
  ·rcases cG.1 hp with hp|hp
   ·exact hL p hp
   ·rw[cS.1 hp];exact hl
  ·rcases dT j L.length with hj|hj
   ·rw[fe hj]at hp;exact .inr ⟨hp,by dsimp only;rw[if_neg Ey]⟩
   ·rw[iq hj]at hp;have:j=L.length:=by
     have:=(aY.1 hp).1;simp at this;omega
    subst this;simp only[jC,wZ,cH.injEq]at hp;subst hp;exact .inl ⟨rfl,by dsimp only;rw[if_pos rfl]⟩
 |some q =>
  obtain⟨_,u,hu⟩:=Bl h;rw[w6]at hu;have hq:=(aY.1 hu).1;refine⟨λj=>if j=q then cv else f j,?_,λp hp=>?_,λj p hp=>?_⟩
  ·have EX:(((c9 (dy ag f L))[q]?).map (·.key)).getD (kV ag l)=kV ag l:=by
    simp[c9,vR,hu]
   have e:=HP (dy ag f L) q (λe=>{ e with key:=kV ag l,val:=cv }) (kV ag l,cv) (λ_ _=>rfl);have e2:(dy ag f L).set q (kV ag l,cv)=dy ag (λj=>if j=q then cv else f j) (L.set q (l,v)):=by
    apply lq;intro j;rw[bU,vR,vR,bU,rV];by_cases hj:q=j
    ·subst hj;simp[hq]
    ·rw[if_neg hj,if_neg hj,if_neg (Ne.symm hj)]
   simp only[fc,EX,h2,Result.andThen_ok,MapKept.run_setObj_map _ hb,Sem.run_bind];rw[e,e2,bJ]
  ·rcases sW hp with hp|hp
   ·exact hL p hp
   ·rw[hp];exact hl
  ·simp only[bU]at hp;by_cases hj:q=j
   ·subst hj;rw[if_pos rfl,if_pos hq]at hp;cases hp;exact .inl ⟨rfl,by dsimp only;rw[if_pos rfl]⟩
   ·rw[if_neg hj]at hp;exact .inr ⟨hp,by dsimp only;rw[if_neg (Ne.symm hj)]⟩
def bz.wrR{σ:St}{γ:Cx}(h:bz σ γ){id:Nat}{ob ob':Ob}(ho:σ.aa[id]?=some ob)(hg:ob≠.gone)(gH:ob.ew ob'){b o cap:Nat}(hb:γ.blk id=some (b,o,cap)){w':World}(nL:∀ k,k≠b->w'.heap[k]?=γ.w.heap[k]?):∀ v cv,aw σ.aa γ.w γ.Z γ.blk v cv->aw (σ.aa.set id ob') w' γ.Z γ.blk v cv:=by
 have bZ:id<σ.aa.length:=(aY.1 ho).1;have jT:Live σ.aa id:=⟨ob,ho,hg⟩;exact λv cv hv =>
  hv.mono (λz hz=>⟨hz,nL z (λe=>h.nz b ⟨id,o,cap,jT,hb⟩ (e▸hz))⟩) (λi x hx=>by
   rw[bU];by_cases oo:id=i
   ·subst oo;rw[ho]at hx;simp at hx;subst hx;right;refine⟨rfl,ob',by simp[bZ],gH⟩
   ·rw[if_neg oo];by_cases bL:x=.gone
    ·subst bL;exact .inl hx
    ·exact .inr ⟨rfl,x,hx,Ob.jS bL⟩)
def agn{t:TypeId}{ag:Nat}(vS:jM P t ag){z:Value}{w:World}(hz:∀ kt et,P.underlying t=some (.map kt et)->(zeroValue et).run P w=.ok z w){b:Nat}{f:Nat->Value}{L:List (List Int×AV)}(hb:w.heap[b]?=some (.map (c9 (dy ag f L)) L.length))(hL:∀ p∈L,p.1.length=kQ ag){l:List Int}(hl:l.length=kQ ag):
  ∃ f':Nat->Value,(Instr.mapEntry t (.map (some b)) (kV ag l)).run P w=.ok (.tuple #[((gX l L 0).map f).getD z,.int .i64 (CV l L:Nat)]) { w with heap:=w.heap.setIfInBounds b (.map (c9 (dy ag f' (fh l ((mA l L).getD (.lit z)) L))) (fh l ((mA l L).getD (.lit z)) L).length) } /\
   (∀ p∈fh l ((mA l L).getD (.lit z)) L,p.1.length=kQ ag)/\∀ (j:Nat) p,(fh l ((mA l L).getD (.lit z)) L)[j]?=some p->(p.2=(mA l L).getD (.lit z)/\f' j=((gX l L 0).map f).getD z)\/(L[j]?=some p/\f' j=f j):=by
 obtain⟨kt,et,ht,hk⟩:=vS;obtain⟨h1,h2,h3⟩:=hk l hl;generalize hv:(mA l L).getD (.lit z)=v;simp only[Instr.mapEntry,Sem.run_bind,run_underlying ht,MapKept.run_getObj_map hb,h1,h3 f L w hL,Result.andThen_ok];unfold fh CV;cases h:gX l L 0 with
 |none =>
  refine⟨λj=>if j=L.length then z else f j,?_,λp hp=>?_,λj p hp=>?_⟩
  ·have e:=L1 (dy ag f L) (kV ag l,z);rw[rV]at e;have e2:dy ag f L++[(kV ag l,z)]=dy ag (λj=>if j=L.length then z else f j) (L++[(l,v)]):=by
    unfold dy;rw[List.mapIdx_append];congr 1
    ·apply List.ext_getElem
     ·simp
     ·intro j h5 h6;have:j<L.length:=by simpa using h5
      simp[oR this]
    ·simp
   simp only[rH,hz kt et ht,Result.andThen_ok,MapKept.run_setObj_map _ hb,Sem.run_bind,e,e2,bN,yv,Sem.run_pure,Option.getD_none,goInt]
  ·rcases cG.1 hp with hp|hp
   ·exact hL p hp
   ·rw[cS.1 hp];exact hl
  ·rcases dT j L.length with hj|hj
   ·rw[fe hj]at hp;exact .inr ⟨hp,by dsimp only;rw[if_neg Ey]⟩
   ·rw[iq hj]at hp;have:j=L.length:=by
     have:=(aY.1 hp).1;simp at this;omega
    subst this;simp only[jC,wZ,cH.injEq]at hp;subst hp;exact .inl ⟨rfl,by dsimp only;rw[if_pos rfl];rfl⟩
 |some q =>
  obtain⟨_,u,hu⟩:=Bl h;rw[w6]at hu;have hq:=(aY.1 hu).1;refine⟨f,?_,λp hp=>?_,λj p hp=>?_⟩
  ·have EX:(((c9 (dy ag f L))[q]?).map (·.key)).getD (kV ag l)=kV ag l:=by
    simp[c9,vR,hu]
   have ago:(((c9 (dy ag f L))[q]?).map (λe=>(e.born:Int))).getD 0=(q:Int):=by
    simp[c9,vR,hu]
   have e:=HP (dy ag f L) q (λe=>{ e with key:=kV ag l }) (kV ag l,f q) (λx hx=>by
    rw[vR,hu]at hx;cases hx;rfl)
   have e2:(dy ag f L).set q (kV ag l,f q)=dy ag f (L.set q (l,v)):=by
    apply lq;intro j;rw[bU,vR,vR,bU,rV];by_cases hj:q=j
    ·subst hj;simp[hq]
    ·rw[if_neg hj,if_neg hj]
   simp only[fc,EX,h2,Result.andThen_ok,MapKept.run_setObj_map _ hb,Sem.run_bind,Sem.run_pure,ago,lR,goInt];rw[e,e2,bJ]
  ·rcases sW hp with hp|hp
   ·exact hL p hp
   ·rw[hp];exact hl
  ·simp only[bU]at hp;by_cases hj:q=j
   ·subst hj;rw[if_pos rfl,if_pos hq]at hp;cases hp;exact .inl ⟨rfl,rfl⟩
   ·rw[if_neg hj]at hp;exact .inr ⟨hp,rfl⟩
def agp(ents:List (Value×Value)){n:Nat}(hn:n<ents.length):(c9 ents).findIdx? (λe=>(e.born:Int)==(n:Int))=some n:=by
 unfold c9;rw[List.findIdx?_toArray,List.findIdx?_eq_some_iff_getElem];refine⟨by simpa using hn,G9,λj hj=>?_⟩;simp only[List.getElem_mapIdx];simp;omega
def agq{t:TypeId}{ag:Nat}{w:World}{b:Nat}{f:Nat->Value}{L:List (List Int×AV)}(hb:w.heap[b]?=some (.map (c9 (dy ag f L)) L.length)){n:Nat}(hn:n<L.length)(v:AV)(cv:Value):
  (Instr.entryStore t (.map (some b)) (.int .i64 (n:Nat)) cv).run P w=.ok () { w with heap:=w.heap.setIfInBounds b (.map (c9 (dy ag (λj=>if j=n then cv else f j) (rL n v L))) (rL n v L).length) }:=by
 have hf:=agp (dy ag f L) (n:=n) (by rw[rV];exact hn);have e:=HP (dy ag f L) n (λe=>{ e with val:=cv }) (kV ag (L.getD n ([],.undef)).1,cv) (λx hx=>by
  rw[vR,bx hn]at hx;cases hx;rw[ay,bx hn];rfl)
 have e2:(dy ag f L).set n (kV ag (L.getD n ([],.undef)).1,cv)=dy ag (λj=>if j=n then cv else f j) (rL n v L):=by
  unfold rL;apply lq;intro j;rw[bU,vR,vR,bU,rV];by_cases hj:n=j
  ·subst hj;simp[hn]
  ·rw[if_neg hj,if_neg hj,if_neg (Ne.symm hj)]
 simp only[Instr.entryStore,Sem.run_bind,MapKept.run_getObj_map hb,asInt,asIntOf,Sem.run_pure,Result.andThen_ok,hf,MapKept.run_setObj_map _ hb];rw[e,e2];simp[rL]
def L5{P:Program}{t:TypeId}(h:(ty P t).kind=8):∃kt,P.underlying t=some (.map kt (ty P t).elem):=by
 unfold ty at h ⊢;cases hi:P.info? t<;>cases hd:P.underlying t<;>simp[hi,hd]at h ⊢;rename_i i d;cases d<;>simp at h ⊢
def afZ{o:Oper}{σ:St}{K:St->Prop}(hW:cm P o σ K){γ:Cx}(h:bz σ γ){a:Act}(ha:γ.tmps=a.tmps)(hd:∀ d,o.dst=some d->d<a.tmps.size):
  Bk o σ γ a K ((execOp a.eval o).run P γ.w):=by
 obtain⟨dst,op,type,pos,after,guard⟩:=o;unfold cm at hW;have E:=λx=>uA h ha x;cases op
 case move x=>exact dE h ha hd (E x) hW (by simp[execOp])
 case assign x=>exact dE h ha hd (E x) hW (by simp[execOp])
 case pick c x y =>
  simp only at hW;have hc:=E c;split at hW
  ·rename_i t he;rw[he]at hc;have aW:=hc.cO;refine dE h ha hd (v:=gF t (ev σ x) (ev σ y)) (cv:=if t then a.eval x else a.eval y) ?_ hW (by simp[execOp,aW,asBool]);unfold gF;split
   ·rename_i x' y' h1 h2;have hx:=E x;have hy:=E y;rw[h1]at hx;rw[h2]at hy;rw[hx.cO,hy.cO];cases t<;>exact .lit _
   ·cases t
    ·exact E y
    ·exact E x
  ·exact hW.elim
 case alloc e =>
  simp only at hW;obtain⟨bj,hW⟩:=hW;split at hW
  ·rename_i z hz;obtain⟨v,hv,hvc⟩:=S8 bj hz γ.w;obtain⟨l1,l2⟩:=L6 (os:=σ.aa) (w:=γ.w) (Z:=γ.Z) (blk:=γ.blk) z;refine HO (ob:=.var (z.map .lit)) (v:=.ptr σ.aa.length 0 0) (cv:=.pointer (some ⟨γ.w.heap.size,0,none⟩)) (cap:=0) (cur:=z.toArray) (t:=e) h ha hd ⟨rfl,G9,l2⟩ ?_ hW ?_
   ·exact .oX _ 0 _ 0 _ (Hb ..) (by simp[dq])
   ·simp[execOp,Instr.alloc,hv,newVar,newRow,hvc]
  ·exact hW.elim
 case box e x =>
  simp only at hW;obtain⟨hs,hK⟩:=hW;obtain⟨c1,c2,c3⟩:=L7 (E x) hs;refine HO (ob:=.var (cellsOf (ev σ x))) (cv:=.pointer (some ⟨γ.w.heap.size,0,none⟩)) (cap:=0) (cur:=(a.eval x).cells) (t:=e) h ha hd ⟨rfl,c1,c2⟩ ?_ hK ?_
  ·exact .oX _ 0 _ 0 _ (Hb ..) (by simp[dq])
  ·simp[execOp,Instr.box,newVar,newRow]
 case build t parts =>
  simp only at hW;split at hW
  ·rename_i z hk hz;split at hW
   ·rename_i cs hf;obtain⟨⟨hs,hp⟩,hK⟩:=hW;obtain⟨cur,h1,h2⟩:=ags h ha hk hz hf hs hp;exact dE h ha hd h2 hK (by simp only[execOp,Sem.run_bind,h1,Result.andThen_ok,Sem.run_pure])
   ·exact hW.elim
  ·rename_i z hk hz;split at hW
   ·rename_i cs hf;obtain⟨⟨hs,hp⟩,hK⟩:=hW;obtain⟨cur,h1,h2⟩:=agt h ha hk hz hf hs hp;exact dE h ha hd h2 hK (by simp only[execOp,Sem.run_bind,h1,Result.andThen_ok,Sem.run_pure])
   ·exact hW.elim
  ·exact hW.elim
 case buildSlice t len parts =>
  simp only at hW;split at hW
  ·rename_i z hk hz;split at hW
   ·rename_i cs hf;obtain⟨⟨ei,h0,ot,agu,hs⟩,hK⟩:=hW;have ht:=vT hk;obtain⟨i,d,hi,HQ,vU,_,hzero⟩:=vV ei;obtain⟨zv,hzr,jQ⟩:=S8 ei hz γ.w;have HR:0<z.length:=by rw[ot];exact h0
    obtain⟨hl,hr⟩:=L8 h ha parts;obtain⟨cur,f1,f2⟩:=HS (σ:=σ) (γ:=γ) _ _ _ _ cs hl hr (λp hp=>by
     simp only[List.mem_map]at hp;obtain⟨q,hq,rfl⟩:=hp;rw[List.all_eq_true]at hs;exact hs q hq) (L9 z len (len*(ty P (ty P t).elem).size) (by rw[ot]) HR) hf
    have apY:cs.length=len*(ty P (ty P t).elem).size:=by
     have:=L9 (os:=σ.aa) (w:=γ.w) (Z:=γ.Z) (blk:=γ.blk) z len (len*(ty P (ty P t).elem).size) (by rw[ot]) HR;have h1:∀ (parts:List (Nat×AV)) (cs td:List AV) (place:Nat->Option (Nat×Nat)),nG place cs parts=some td->td.length=cs.length:=by
      intro parts
      induction parts with
      |nil=>intro cs td place h;simp[nG]at h;rw[h]
      |cons p parts ih =>
       intro cs td place h;obtain⟨i,v⟩:=p;simp only[nG]at h;split at h
       ·simp at h
       ·split at h
        ·rw[ih _ _ _ h,Ma]
        ·simp at h
     rw[h1 _ _ _ _ hf,<- this.1];simp
    have hmul:len*(ty P (ty P t).elem).size<=16777216:=agu;have hlen:len<=maxLen:=by
     have:len*1<=len*(ty P (ty P t).elem).size:=Nat.mul_le_mul_left _ h0;unfold maxLen;omega
    have fj:(Instr.buildSlice t len (parts.map λ(i,x)=>(i,a.eval x))).run P γ.w=.ok (.slice (some ⟨γ.w.heap.size,0,none⟩) len len) (γ.w.alloc (.cells cur (ty P t).elem)):=by
     have dR:¬ (len*(ty P (ty P t).elem).size > 2^24):=Ey;by_cases hl0:len*(ty P (ty P t).elem).size=0
     ·rw[hl0]at f1;have e0:((KP 0).map λx=>(#[]:Array Value)[x%(#[]:Array Value).size]!)=((KP 0).map (z.toArray[· % z.toArray.size]!)):=G9;simp only[Instr.buildSlice,Sem.run_bind,run_underlying ht,Result.andThen_ok,run_sizeOf ei,if_false,hl0,if_true,Sem.run_pure,Nat.not_lt_zero,gt_iff_lt];rw[e0,f1];simp[newRow]
     simp only[Instr.buildSlice,Sem.run_bind,run_underlying ht,Result.andThen_ok,run_sizeOf ei,dR,if_false,hl0,hzr,Sem.run_pure,jQ];rw[show((KP (len*(ty P (ty P t).elem).size)).map λx=>z.toArray[x%z.toArray.size]!)=((KP (len*(ty P (ty P t).elem).size)).map (z.toArray[· % z.toArray.size]!)) from rfl,f1];simp[newRow]
    refine HO (ob:=.arr (ty P (ty P t).elem).size (nH (ty P (ty P t).elem).size len cs)) (cv:=.slice (some ⟨γ.w.heap.size,0,none⟩) len len) (cap:=len) (cur:=cur) (t:=(ty P t).elem) h ha hd ?_ ?_ hK ?_
    ·refine⟨h0,S9 _ _ _ Ey,by rw[f2.1];omega,by rw[Mb];omega,hlen,?_⟩;intro r c v hv;rw[gR];exact f2.2 _ _ (Ta _ _ _ _ _ _ hv)
    ·have:=aw.ref (os:=σ.aa++[.arr (ty P (ty P t).elem).size (nH (ty P (ty P t).elem).size len cs)]) (w:=γ.w.alloc (.cells cur (ty P t).elem)) (Z:=γ.Z) (blk:=dq γ.blk σ.aa.length (some (γ.w.heap.size,0,len)))
      σ.aa.length (ty P (ty P t).elem).size 0 len γ.w.heap.size 0 len len _ (by simp;rfl) (by simp[dq]) (by rw[Mb];omega) Ey (aZ _)
     simpa using this
    ·simp only[execOp,Sem.run_bind,fj,Result.andThen_ok,Sem.run_pure]
   ·exact hW.elim
  ·exact hW.elim
 case load t x =>
  simp only at hW;obtain⟨hk,hW⟩:=hW;have hx:=E x;split at hW
  ·rename_i id r c he;rw[he]at hx;split at hW
   ·rename_i row bK;obtain⟨v,qP,h1,h2,h3⟩:=LP h hk hx bK hW;exact dE h ha hd h2 h3 (by simp only[execOp,Sem.run_bind,h1,Result.andThen_ok,Sem.run_pure])
   ·exact hW.elim
  ·rename_i cells he;rw[he]at hx;obtain⟨v,qP,h1,h2,h3⟩:=agw h hk hx hW;exact dE h ha hd h2 h3 (by simp only[execOp,Sem.run_bind,h1,Result.andThen_ok,Sem.run_pure])
  ·exact hW.elim
 case store t x y =>
  simp only at hW;obtain⟨hk,hW⟩:=hW;have hx:=E x;split at hW
  ·rename_i id r c he;rw[he]at hx;split at hW
   ·rename_i row bK;obtain⟨hc,hK⟩:=hW;obtain⟨w',h1,h2,h3⟩:=agx h hk hx bK (E y) hc;exact Md h3 h2 ha hd hK (by simp only[execOp,Sem.run_bind,h1,Result.andThen_ok,Sem.run_pure])
   ·exact hW.elim
  ·exact hW.elim
 case nilCheck x =>
  simp only at hW;have hx:=E x;split at hW
  ·rename_i id r c he;rw[he]at hx;cases ho:σ.aa[id]? with
   |none=>simp[ho]at hW
   |some ob =>
    have bW:ob≠.gone/\K (σ.put dst (.ptr id r c)):=by cases ob<;>simp[ho]at hW ⊢<;>exact hW
    have aW :∃ad,a.eval x=.pointer (some ad):=by
     rcases hx.LX with h|⟨b,cap,cells,_,_,_,h⟩|⟨_,b,o,cap,rows,_,_,h⟩
     ·rw[ho]at h;simp at h;exact absurd h bW.1
     ·exact⟨_,h⟩
     ·exact⟨_,h⟩
    obtain⟨ad,aW⟩:=aW;exact dE h ha hd hx bW.2 (by simp[execOp,aW])
  ·rename_i cells he;rw[he]at hx;have aW :∃ad,a.eval x=.pointer (some ad):=by
    obtain⟨b,o,f,h,_⟩:=hx.LY;exact⟨_,h⟩
   obtain⟨ad,aW⟩:=aW;exact dE h ha hd hx hW (by simp[execOp,aW])
  ·exact hW.elim
 case binOp op t x y yt =>
  simp only at hW;have hx:=E x;have hy:=E y;split at hW
  ·rename_i k p k' q he hf;rw[he]at hx;rw[hf]at hy;obtain⟨rfl,hW⟩:=hW;obtain⟨v,h1,h2⟩:=agy (P:=P) hW t γ.w;refine dE h ha hd (.lit v) h2 ?_;simp[execOp,hx.cO,hy.cO,eqGuard,h1]
  ·rename_i p q he hf;rw[he]at hx;rw[hf]at hy;obtain⟨hk,hW⟩:=hW;have ht:=agz hk;split at hW
   ·refine dE h ha hd (.lit _) hW ?_;simp[execOp,hx.cO,hy.cO,eqGuard,run_eql_bool γ.w t p q ht]
   ·refine dE h ha hd (.lit _) hW ?_;simp[execOp,hx.cO,hy.cO,eqGuard,run_neq_bool γ.w t p q ht,bne]
   ·exact hW.elim
  ·rename_i sz rows he hf;rw[he]at hx;rw[hf]at hy;obtain⟨⟨hk,hr⟩,hW⟩:=hW;have ht:=vT hk;rcases hx.Bb.inv with⟨ad,cap,rfl,aW⟩|⟨b,o,cap,f,aW,_⟩
   ·exact absurd hr G9
   split at hW
   ·refine dE h ha hd (.lit _) hW ?_;simp[execOp,aW,hy.cO,eqGuard,agi γ.w t _ _ _ ht]
   ·refine dE h ha hd (.lit _) hW ?_;simp[execOp,aW,hy.cO,eqGuard,agj γ.w t _ _ _ ht]
   ·exact hW.elim
  ·rename_i ad n c he hf;rw[he]at hx;rw[hf]at hy;obtain⟨hk,hW⟩:=hW;have ht:=vT hk;split at hW
   ·refine dE h ha hd (.lit _) hW ?_;simp[execOp,hx.cO,hy.cO,eqGuard,agf γ.w t _ _ _ _ ht]
   ·refine dE h ha hd (.lit _) hW ?_;simp[execOp,hx.cO,hy.cO,eqGuard,agh γ.w t _ _ _ _ ht]
   ·exact hW.elim
  ·rename_i cs ds he hf;rw[he]at hx;rw[hf]at hy;split at hW
   ·rename_i as bs EY Me;obtain⟨⟨hq,hlen,Da⟩,hW⟩:=hW;have kz:=L4 hx EY;have Bm:=L4 hy Me;have heq:=hq γ.w as bs rfl hlen;split at hW
    ·refine dE h ha hd (.lit _) hW ?_;simp only[execOp,kz,Bm,Sem.run_bind,run_eqGuard_agg γ.w _ _ _ _ _ _ Da,run_eql_struct,heq,Result.andThen_ok,Sem.run_pure]
    ·refine dE h ha hd (.lit _) hW ?_;simp only[execOp,kz,Bm,Sem.run_bind,run_eqGuard_agg γ.w _ _ _ _ _ _ Da,run_neq_struct,heq,Result.andThen_ok,Sem.run_pure]
    ·exact hW.elim
   ·exact hW.elim
  ·exact hW.elim
 case unOp op t x =>
  simp only at hW;have hx:=E x;split at hW
  ·rename_i b he;rw[he]at hx;exact dE h ha hd (.lit _) hW (by simp[execOp,hx.cO,Op.unary])
  ·rename_i k n he;rw[he]at hx;unfold vJ at hW;split at hW
   ·exact dE h ha hd (.lit _) hW (by simp[execOp,hx.cO,Op.unary,Op.intArith])
   ·exact dE h ha hd (.lit _) hW.2 (by simp[execOp,hx.cO,Op.unary,Op.intArith,zO hW.1])
  ·exact hW.elim
 case makeMap t r =>
  simp only at hW;obtain⟨⟨rfl,hk⟩,hK⟩:=hW;refine C' (σ1:={ σ with aa:=σ.aa++[.mp (AZ P t) []] }) (γ1:={ γ with w:=γ.w.alloc (.map #[] 0),blk:=dq γ.blk σ.aa.length (some (γ.w.heap.size,0,0)) })
   (Fr.EZ (cap:=0) _ rfl rfl rfl rfl) (h.EZ (cap:=0) rfl λij w' kv hR hb hx=>⟨_,λ_=>Go.undef,hb,hx,G9,G9⟩) ha hd
   (v:=.dD σ.aa.length) (cv:=.map (some γ.w.heap.size)) (.dD _ _ _ _ (Hb ..) (by simp[dq])) hK ?_
  simp[execOp,Instr.makeMap,newObj,Sem.run]
 case lookup t x i ok =>
  simp only at hW;split at hW
  ·rename_i ag l id jr L z fR pg ph;obtain⟨⟨vS,rfl,hl,HT,rfl⟩,hK⟩:=hW;obtain⟨kt,ht⟩:=L5 HT;obtain⟨_,ho,b,f,hb,aW,jt,hL,kS⟩:=EW h (E x) pg;have E0:=L3 (E i) fR hl;have hz:∀ E1 Bn,P.underlying t=some (.map E1 Bn)->(zeroValue Bn).run P γ.w=.ok z γ.w:=by
    intro E1 Bn h';rw[ht]at h';cases h';unfold zeroV at ph;split at ph
    ·rename_i ii hi;simp[zeroValue,typeInfo,hi,ph]
    ·cases ph
   have fj:=agk (P:=P) vS hz jt hL hl;refine dE (cv:=((gX l L 0).map f).getD z) h ha hd ?_ hK (by simp only[execOp,aW,E0,Sem.run_bind,fj,Result.andThen_ok,Sem.run_pure]);unfold mA;cases hf:gX l L 0 with
   |none=>exact .lit z
   |some q =>
    obtain⟨_,u,hu⟩:=Bl hf;rw[w6]at hu;simp only[tX,hu,fc,lR];exact kS q _ hu
  ·exact hW.elim
 case mapUpdate t m k x =>
  simp only at hW;split at hW
  ·rename_i ag l id jr L fR pg;obtain⟨⟨vS,rfl,hl⟩,hK⟩:=hW;obtain⟨_,ho,b,f,hb,aW,jt,hL,kS⟩:=EW h (E m) pg;have E0:=L3 (E k) fR hl;obtain⟨f',fj,Mf,jF⟩:=agl (P:=P) vS jt hL hl (ev σ x) (a.eval x);have nM:b<γ.w.heap.size:=(nA.1 jt).1;refine Md (σ1:={ σ with aa:=σ.aa.set id (.mp jr (fh l (ev σ x) L)) }) (γ1:={ γ with w:={ γ.w with heap:=γ.w.heap.setIfInBounds b (.map (c9 (dy jr f' (fh l (ev σ x) L))) (fh l (ev σ x) L).length) } })
    (Fr.write (.mp jr (fh l (ev σ x) L)) ho G9 rfl hb (λk hk=>by simp[vC (Ne.symm hk)]) G9 rfl rfl rfl)
    (h.HU (ob':=.mp jr (fh l (ev σ x) L)) ho G9 rfl hb (λk hk=>by simp[vC (Ne.symm hk)]) G9 λij hR=>⟨b,f',hb,by simp[nM],Mf,λj p hp=>?_⟩) ha hd hK ?_
   ·rcases jF j p hp with⟨h1,h2⟩|⟨h1,h2⟩
    ·rw[h1,h2];exact hR _ _ (E x)
    ·rw[h2];exact hR _ _ (kS j p h1)
   ·simp only[execOp,aW,E0,Sem.run_bind,fj,Result.andThen_ok,Sem.run_pure]
  ·exact hW.elim
 case mapEntry t m k =>
  simp only at hW;split at hW
  ·rename_i ag l id jr L z fR pg ph;obtain⟨⟨vS,rfl,hl,HT⟩,hK⟩:=hW;obtain⟨kt,ht⟩:=L5 HT;obtain⟨_,ho,b,f,hb,aW,jt,hL,kS⟩:=EW h (E m) pg;have E0:=L3 (E k) fR hl;have hz:∀ E1 Bn,P.underlying t=some (.map E1 Bn)->(zeroValue Bn).run P γ.w=.ok z γ.w:=by
    intro E1 Bn h';rw[ht]at h';cases h';unfold zeroV at ph;split at ph
    ·rename_i ii hi;simp[zeroValue,typeInfo,hi,ph]
    ·cases ph
   obtain⟨f',fj,Mf,jF⟩:=agn (P:=P) vS hz jt hL hl;have nM:b<γ.w.heap.size:=(nA.1 jt).1;have hold:aw σ.aa γ.w γ.Z γ.blk ((mA l L).getD (.lit z)) (((gX l L 0).map f).getD z):=by
    unfold mA;cases hf:gX l L 0 with
    |none=>exact .lit z
    |some q =>
     obtain⟨_,u,hu⟩:=Bl hf;rw[w6]at hu;simp only[tX,hu,fc,lR];exact kS q _ hu
   generalize (mA l L).getD (.lit z)=v at *;generalize ((gX l L 0).map f).getD z=cv at *;have hR0:∀ x y,aw σ.aa γ.w γ.Z γ.blk x y->aw (σ.aa.set id (.mp jr (fh l v L))) { γ.w with heap:=γ.w.heap.setIfInBounds b (.map (c9 (dy jr f' (fh l v L))) (fh l v L).length) } γ.Z γ.blk x y :=
    h.wrR (ob':=.mp jr (fh l v L)) ho G9 rfl hb (λk hk=>by simp[vC (Ne.symm hk)])
   refine C' (σ1:={ σ with aa:=σ.aa.set id (.mp jr (fh l v L)) }) (γ1:={ γ with w:={ γ.w with heap:=γ.w.heap.setIfInBounds b (.map (c9 (dy jr f' (fh l v L))) (fh l v L).length) } })
    (Fr.write (.mp jr (fh l v L)) ho G9 rfl hb (λk hk=>by simp[vC (Ne.symm hk)]) G9 rfl rfl rfl)
    (h.HU (ob':=.mp jr (fh l v L)) ho G9 rfl hb (λk hk=>by simp[vC (Ne.symm hk)]) G9 λij hR=>⟨b,f',hb,by simp[nM],Mf,λj p hp=>?_⟩) ha hd
    (v:=.bC [v,QM (CV l L:Nat)]) (cv:=.tuple #[cv,.int .i64 (CV l L:Nat)]) (.bC _ _ rfl λj x hx=>?_) hK ?_
   ·rcases jF j p hp with⟨h1,h2⟩|⟨h1,h2⟩
    ·rw[h1,h2];exact hR _ _ hold
    ·rw[h2];exact hR _ _ (kS j p h1)
   ·match j,hx with
    |0,hx=>cases hx;exact hR0 _ _ hold
    |1,hx=>cases hx;exact .lit _
   ·simp only[execOp,aW,E0,Sem.run_bind,fj,Result.andThen_ok,Sem.run_pure]
  ·exact hW.elim
 case entryStore t m s x =>
  simp only at hW;split at hW
  ·rename_i n id ag L hs pg;obtain⟨⟨fY,o8⟩,hK⟩:=hW;obtain⟨_,ho,b,f,hb,aW,jt,hL,kS⟩:=EW h (E m) pg;have Tb:=E s;rw[hs]at Tb;have jE:=Tb.cO;have hn:n=((n.toNat:Nat):Int):=Ey;have fj:=agq (P:=P) (t:=t) jt (n:=n.toNat) Ey (ev σ x) (a.eval x);rw[<- hn]at fj;have nM:b<γ.w.heap.size:=(nA.1 jt).1;refine Md (σ1:={ σ with aa:=σ.aa.set id (.mp ag (rL n.toNat (ev σ x) L)) }) (γ1:={ γ with w:={ γ.w with heap:=γ.w.heap.setIfInBounds b (.map (c9 (dy ag (λj=>if j=n.toNat then a.eval x else f j) (rL n.toNat (ev σ x) L))) (rL n.toNat (ev σ x) L).length) } })
    (Fr.write (.mp ag (rL n.toNat (ev σ x) L)) ho G9 rfl hb (λk hk=>by simp[vC (Ne.symm hk)]) G9 rfl rfl rfl)
    (h.HU (ob':=.mp ag (rL n.toNat (ev σ x) L)) ho G9 rfl hb (λk hk=>by simp[vC (Ne.symm hk)]) G9 λij hR=>⟨b,λj=>if j=n.toNat then a.eval x else f j,hb,by simp only[Array.getElem?_setIfInBounds_self_of_lt nM],λp hp=>?_,λj p hp=>?_⟩) ha hd hK ?_
   ·unfold rL at hp;rcases sW hp with hp|hp
    ·exact hL p hp
    ·have pd:n.toNat<L.length:=Ey;rw[hp,ay,bx pd];exact hL L[n.toNat] (List.getElem_mem pd)
   ·unfold rL at hp;simp only[bU]at hp;by_cases hj:n.toNat=j
    ·subst hj;rw[if_pos rfl,if_pos Ey]at hp;cases hp;dsimp only;rw[if_pos rfl];exact hR _ _ (E x)
    ·rw[if_neg hj]at hp;dsimp only;rw[if_neg (Ne.symm hj)];exact hR _ _ (kS j p hp)
   ·simp only[execOp,aW,jE,Sem.run_bind,fj,Result.andThen_ok,Sem.run_pure]
  ·exact hW.elim
 case index t x i =>
  simp only at hW;split at hW
  ·rename_i s k n hs hi;obtain⟨⟨hu,fY,o8⟩,hK⟩:=hW;have hx:=E x;rw[hs]at hx;have hj:=E i;rw[hi]at hj;have aX:n.toNat<s.size:=Ey;have hg:s[n.toNat]?=some s[n.toNat]:=by simp[aX]
   refine dE h ha hd (.lit _) hK ?_;simp only[execOp,hx.cO,hj.cO,Instr.index,asIntOf,Sem.run_bind,Sem.run_pure,Result.andThen_ok,run_underlying hu,if_pos fY,hg,Le]
  ·exact hW.elim
 case makeInterface t x =>
  simp only at hW;obtain⟨h1,hK⟩:=hW;refine dE h ha hd (v:=.iU t (ev σ x)) (cv:=.iface t (a.eval x)) (.iU _ _ _ (E x)) hK ?_;unfold A2 at h1;cases hu:P.underlying t with
  |none=>simp[hu]at h1
  |some d=>cases d<;>simp[hu]at h1<;>simp[execOp,Instr.makeInterface,run_underlying hu]
 case typeAssert x xt asserted ok =>
  simp only at hW;have hx:=E x;split at hW
  ·rename_i t v he;rw[he]at hx;obtain⟨cx,hc,hv⟩:=hx.S3;obtain⟨⟨h1,rfl,rfl⟩,hK⟩:=hW;refine dE h ha hd hv hK ?_;unfold A2 at h1;cases hu:P.underlying t with
   |none=>simp[hu]at h1
   |some d=>cases d<;>simp[hu]at h1<;>simp[execOp,hc,Instr.typeAssert,run_underlying hu]
  ·exact hW.elim
 case makeFunc fn first captured =>
  simp only at hW;split at hW
  ·rename_i f;obtain⟨hf,hK⟩:=hW;have hfe:first = #[]:=Array.eq_empty_of_size_eq_zero hf
   subst hfe;refine dE h ha hd (v:=.fn f (captured.toList.map (ev σ))) (cv:=.func (.func f) #[] (captured.map a.eval)) ?_ hK (by simp[execOp,Instr.makeFunc]);refine .fn _ _ _ G9 (λj x hj=>?_);simp only[bM]at hj;cases hc:captured.toList[j]? with
   |none=>simp[hc]at hj
   |some y =>
    simp[hc]at hj;subst hj;simp only[Ex]at hc;simp[eU,hc];exact E y
  ·exact hW.elim
 case makeSlice t l c =>
  simp only at hW;have hl:=E l;have hc:=E c;split at hW
  ·rename_i z k n k' n' hk hz he hf;rw[he]at hl;rw[hf]at hc;obtain⟨⟨ei,h0,ot,rfl,fY,o8,E2,_⟩,hK,_⟩:=hW;have ht:=vT hk;obtain⟨i,d,hi,HQ,vU,E3,hzero⟩:=vV ei;obtain⟨zv,Bo,jQ⟩:∃zv,i.zero=some zv/\zv.cells=z.toArray:=by
    rw[hzero]at hz;cases hv:i.zero with
    |none=>simp[hv]at hz
    |some v=>simp[hv]at hz;exact⟨v,rfl,by rw[<- hz]⟩
   have hb:(i.bytes:Int)*n'<=281474976710656:=by
    have h1:(i.bytes:Int)<=128:=by rw[<- E3];exact_mod_cast E2
    have h2:(i.bytes:Int)*n'<=128*n':=Int.mul_le_mul_of_nonneg_right h1 fY;omega
   have hr:=run_make (P:=P) γ.w t _ i zv ht hi Bo k k' n' n' fY (Int.le_refl _) hb Ey;rw[<- vU,jQ]at hr;have HR:0<z.length:=by rw[ot];exact h0
   obtain⟨z1,z2⟩:=L9 (os:=σ.aa) (w:=γ.w) (Z:=γ.Z) (blk:=γ.blk) z n'.toNat (n'.toNat*(ty P (ty P t).elem).size) (by rw[ot]) HR;refine HO (ob:=.arr (ty P (ty P t).elem).size (aK n'.toNat (z.map .lit))) (cv:=.slice (some ⟨γ.w.heap.size,0,none⟩) n'.toNat n'.toNat) (cap:=n'.toNat) (cur:=madeCells z.toArray (n'.toNat*(ty P (ty P t).elem).size)) (t:=(ty P t).elem) h ha hd ?_ ?_ hK ?_
   ·refine⟨h0,?_,by rw[size_madeCells];omega,G9,by unfold maxLen;omega,?_⟩
    ·intro row bK;simp only[List.mem_replicate]at bK;rw[bK.2];simp[ot]
    ·intro r c v hv;rw[gR];have cV:r<n'.toNat:=by
      simp only[cellAt,Option.bind_eq_some_iff]at hv;obtain⟨y,hy,_⟩:=hv;have:=(aY.1 hy).1;simpa using this
     simp only[cellAt,List.getElem?_replicate,cV,if_true,tX]at hv;have bI:c<(ty P (ty P t).elem).size:=by
      have:=(aY.1 hv).1;simp at this;omega
     have aX:=Bd cV bI;have hx:((bn n'.toNat).flatMap λ_=>z.map AV.lit)[r*(ty P (ty P t).elem).size+c]?=some v:=by
      have key:∀ (m r:Nat),r<m->((bn m).flatMap λ_=>z.map AV.lit)[r*z.length+c]?=(z.map AV.lit)[c]?:=by
       intro m;have hlen:∀ m,((bn m).flatMap λ_=>z.map AV.lit).length=m*z.length:=by
        intro m
        induction m with
        |zero=>simp
        |succ m ih=>rw[uc,sX,bN,ih];simp[gn]
       induction m with
       |zero=>intro r hr;omega
       |succ m ih =>
        intro r hr;rw[uc,sX];by_cases zP:r<m
        ·rw[fe (by rw[hlen,ot];exact Bd zP bI)];exact ih r zP
        ·have:r=m:=Ey;subst this;rw[iq (by rw[hlen];omega),hlen];simp
      rw[<- ot,key _ _ cV];exact hv
     exact z2 _ _ hx
   ·have:=aw.ref (os:=σ.aa++[.arr (ty P (ty P t).elem).size (aK n'.toNat (z.map .lit))]) (w:=γ.w.alloc (.cells (madeCells z.toArray (n'.toNat*(ty P (ty P t).elem).size)) (ty P t).elem)) (Z:=γ.Z) (blk:=dq γ.blk σ.aa.length (some (γ.w.heap.size,0,n'.toNat)))
     σ.aa.length (ty P (ty P t).elem).size 0 n'.toNat γ.w.heap.size 0 n'.toNat n'.toNat _ (Hb ..) (by simp[dq]) G9 Ey (aZ _)
    simpa using this
   ·simp only[execOp,Sem.run_bind,hl.cO,hc.cO,hr,Result.andThen_ok,Sem.run_pure]
  ·exact hW.elim
 case fieldAddr s x f =>
  simp only at hW;have hx:=E x;split at hW
  ·rename_i off ft size hk jg;obtain⟨aO,hW⟩:=hW;obtain⟨fs,hu,jh⟩:=Mg hk;obtain⟨fd,HV,A3,Db⟩:∃fd:Field,fs[f]?=some fd/\fd.offset=off/\yE P fd.type=size:=by
    rw[jh]at jg;simp only[bM,Ex]at jg;cases hg:fs[f]? with
    |none=>simp[hg]at jg
    |some fd=>simp[hg]at jg;exact⟨fd,rfl,jg.1,jg.2.2⟩
   have fj:∀ (b o:Nat),(Instr.fieldAt s (.pointer (some ⟨b,o,none⟩)) f).run P γ.w=.ok (.pointer (some ⟨b,o+off,none⟩)) γ.w:=by
    intro b o;have hso:(sizeOf fd.type).run P γ.w=.ok size γ.w:=by
     rw[<- Db];unfold yE at Db ⊢;cases hi:P.info? fd.type with
     |none=>rw[hi]at Db;simp at Db;omega
     |some i=>simp[sizeOf,typeInfo,hi]
    have cE:¬ size=0:=Ey;simp[Instr.fieldAt,run_underlying hu,HV,Instr.sureAddr,fieldPlace,hso,cE,Addr.tu,A3]
   split at hW
   ·rename_i id r c he;rw[he]at hx;cases ho:σ.aa[id]? with
    |none=>simp[ho]at hW
    |some ob =>
     have bW:ob≠.gone/\K (σ.put dst (.ptr id r (c+off))):=by cases ob<;>simp[ho]at hW ⊢<;>exact hW
     rcases hx.LX with hg|⟨b,cap,cells,h1,h2,rfl,aW⟩|⟨sz,b,o,cap,rows,h1,h2,aW⟩
     ·rw[ho]at hg;simp at hg;exact absurd hg bW.1
     ·exact dE h ha hd (.oX id (c+off) b cap cells h1 h2) bW.2 (by simp only[execOp,Sem.run_bind,aW,fj,Result.andThen_ok,Sem.run_pure])
     ·refine dE h ha hd (.pM id r (c+off) sz b o cap rows h1 h2) bW.2 ?_;simp only[execOp,Sem.run_bind,aW,fj,Result.andThen_ok,Sem.run_pure];simp[w7]
   ·rename_i cells he;rw[he]at hx;obtain⟨b,o,g,aW,h1,h2,h3⟩:=hx.LY;refine dE h ha hd (.b6 (cells.drop off) b (o+off) (λj=>g (off+j)) h1 ?_ ?_) hW ?_
    ·intro j x hj;rw[oa]at hj;have:=h2 _ _ hj;simpa [w7] using this
    ·intro j x hj;rw[oa]at hj;exact h3 _ _ hj
    ·simp only[execOp,Sem.run_bind,aW,fj,Result.andThen_ok,Sem.run_pure]
   ·exact hW.elim
  ·exact hW.elim
 case extract x i =>
  simp only at hW;have hx:=E x;split at hW
  ·rename_i vs he;rw[he]at hx;obtain⟨bq,aW,hs,hr⟩:=hx.SQ;split at hW
   ·rename_i v hv;have hi:i<bq.size:=by rw[hs];exact(aY.1 hv).1
    refine dE h ha hd (hr i v hv) hW ?_;simp[execOp,aW,Instr.extract,hi,eU]
   ·exact hW.elim
  ·exact hW.elim
 case field s x f =>
  simp only at hW;have hx:=E x;split at hW
  ·rename_i off ft size hk jg;obtain⟨ei,vU,hW⟩:=hW;obtain⟨fs,hu,jh⟩:=Mg hk;obtain⟨fd,HV,A3,Db⟩:∃fd:Field,fs[f]?=some fd/\fd.offset=off/\fd.type=ft:=by
    rw[jh]at jg;simp only[bM,Ex]at jg;cases hg:fs[f]? with
    |none=>simp[hg]at jg
    |some fd=>simp[hg]at jg;exact⟨fd,rfl,jg.1,jg.2.1⟩
   subst A3;subst Db;split at hW
   ·rename_i cs he;rw[he]at hx;obtain⟨bq,aW,hs,hr⟩:=hx.SP;split at hW
    ·rename_i ni;refine dE h ha hd (v:=.agg ((cs.drop fd.offset).take size)) (cv:=.agg (bq.extract fd.offset (fd.offset+size))) ?_ hW.2 ?_
     ·have h1:=hW.1;refine .agg _ _ Hj (λj y hj=>?_);have iw:j<size:=by have:=(aY.1 hj).1;simp at this;omega
      rw[w5,if_pos iw,oa]at hj;have:=hr _ _ hj;simp[eU,Array.getElem?_extract]at this ⊢;rw[if_pos Ey];exact this
     ·simp[execOp,aW,Instr.field,run_underlying hu,HV,asAgg,part,Mh ei,run_sizeOf ei,ni,vU]
    ·rename_i ni;split at hW
     ·rename_i v hv;have hi:fd.offset<bq.size:=by rw[hs];exact(aY.1 hv).1
      refine dE h ha hd (hr _ v hv) hW ?_;simp[execOp,aW,Instr.field,run_underlying hu,HV,asAgg,part,Mh ei,ni,hi,eU]
     ·exact hW.elim
   ·exact hW.elim
  ·exact hW.elim
 case indexAddr t x i =>
  simp only at hW;have hx:=E x;have hi:=E i;split at hW
  ·rename_i id sz off len k n hk he hf;rw[he]at hx;rw[hf]at hi;split at hW
   ·rename_i dj rows ho;obtain⟨⟨rfl,aO,ei,h0,h1⟩,hK⟩:=hW;have ht:=vT hk;rcases hx.LZ with hg|⟨_,_,_,rfl,_⟩|⟨rfl,_⟩|⟨b,o,cap,cap',iv,g1,g2,g3,g4,g5,aW⟩
    ·rw[ho]at hg;simp at hg
    ·omega
    ·omega
    ·refine dE h ha hd (.pM id (off+n.toNat) 0 _ b o cap iv g1 g2) hK ?_;have hc:0<=n/\n<(len:Int):=⟨h0,h1⟩;simp only[execOp,Sem.run_bind,Instr.indexAt,aW,hi.cO,asIntOf,Sem.run_pure,Result.andThen_ok,run_underlying ht,Sem.run_ite,hc,and_self,if_true,run_sizeOf ei,<- aO,Addr.tu];simp[gn,w7]
   ·exact hW.elim
  ·rename_i sz rows k n hk he hf;rw[he]at hx;rw[hf]at hi;obtain⟨⟨aO,ei,h0,h1⟩,hK⟩:=hW;have ht:=vT hk;rcases hx.Bb.inv with⟨ad,cap,rfl,aW⟩|⟨b,o,cap,f,aW,g1,g2,g3,g4,g5⟩
   ·simp at h1;omega
   ·have hn:n.toNat<rows.length:=Ey;refine dE h ha hd (.b6 (rows.getD n.toNat []) b (o+n.toNat*sz) (λj=>f n.toNat j) g1 ?_ ?_) hK ?_
    ·intro j y hj;have:cellAt rows n.toNat j=some y:=by
      rw[ay]at hj;simp[hn]at hj;simp[cellAt,hn,hj]
     have:=g4 _ _ _ this;simpa [w7] using this
    ·intro j y hj;have:cellAt rows n.toNat j=some y:=by
      rw[ay]at hj;simp[hn]at hj;simp[cellAt,hn,hj]
     exact g5 _ _ _ this
    ·have hc:0<=n/\n<(rows.length:Int):=⟨h0,Ey⟩;simp only[execOp,Sem.run_bind,Instr.indexAt,aW,hi.cO,asIntOf,Sem.run_pure,Result.andThen_ok,run_underlying ht,Sem.run_ite,hc,and_self,if_true,run_sizeOf ei,<- aO,Addr.tu]
  ·rename_i id r c k n hk he hf;rw[he]at hx;rw[hf]at hi;cases ho:σ.aa[id]? with
   |none=>simp[ho]at hW
   |some ob =>
    have bW:ob≠.gone/\((ty P (ty P t).elem).kind≠99/\0<=n/\n<(ty P t).len)/\K (σ.put dst (.ptr id r (c+n.toNat*(ty P (ty P t).elem).size))):=by cases ob<;>simp[ho]at hW ⊢<;>exact hW
    obtain⟨tv,⟨ei,h0,h1⟩,hK⟩:=bW;have ht:=Mi hk;have hc:0<=n/\n<((ty P t).len:Int):=⟨h0,h1⟩;rcases hx.LX with hg|⟨b,cap,cells,h1,h2,rfl,aW⟩|⟨sz,b,o,cap,rows,h1,h2,aW⟩
    ·rw[ho]at hg;simp at hg;exact absurd hg tv
    ·refine dE h ha hd (.oX id _ b cap cells h1 h2) hK ?_;simp only[execOp,Sem.run_bind,Instr.indexAt,aW,hi.cO,asIntOf,Sem.run_pure,Result.andThen_ok,run_underlying ht,Instr.sureAddr,Sem.run_ite,hc,and_self,if_true,run_sizeOf ei,Addr.tu]
    ·refine dE h ha hd (.pM id r _ sz b o cap rows h1 h2) hK ?_;simp only[execOp,Sem.run_bind,Instr.indexAt,aW,hi.cO,asIntOf,Sem.run_pure,Result.andThen_ok,run_underlying ht,Instr.sureAddr,Sem.run_ite,hc,and_self,if_true,run_sizeOf ei,Addr.tu];simp[w7]
  ·rename_i cells k n hk he hf;rw[he]at hx;rw[hf]at hi;obtain⟨⟨ei,h0,h1⟩,hK⟩:=hW;have ht:=Mi hk;have hc:0<=n/\n<((ty P t).len:Int):=⟨h0,h1⟩;obtain⟨b,o,g,aW,g1,g2,g3⟩:=hx.LY;refine dE h ha hd (.b6 (cells.drop (n.toNat*(ty P (ty P t).elem).size)) b (o+n.toNat*(ty P (ty P t).elem).size) (λj=>g (n.toNat*(ty P (ty P t).elem).size+j)) g1 ?_ ?_) hK ?_
   ·intro j x hj;rw[oa]at hj;rw[w7];exact g2 _ _ hj
   ·intro j x hj;rw[oa]at hj;exact g3 _ _ hj
   ·simp only[execOp,Sem.run_bind,Instr.indexAt,aW,hi.cO,asIntOf,Sem.run_pure,Result.andThen_ok,run_underlying ht,Instr.sureAddr,Sem.run_ite,hc,and_self,if_true,run_sizeOf ei,Addr.tu]
  ·exact hW.elim
 case slice t x lo hi mx =>
  simp only at hW;obtain⟨hk,ei,rfl,hW⟩:=hW;have ht:=vT hk;have hx:=E x;have fj:∀ (ad:Option Addr) (len cap l h:Nat) (lo hi:Option Value),(lo=none/\l=0\/∃ k,lo=some (.int k (l:Int)))->(hi=none/\h=len\/∃ k,hi=some (.int k (h:Int)))->l<=h->h<=cap ->
    (ty P (ty P t).elem).kind≠99->(Instr.sliceAt t (.slice ad len cap) lo hi none).run P γ.w=.ok (.slice (if cap=l then ad else ad.map (·.add (l*(ty P (ty P t).elem).size))) (h-l) (cap-l)) γ.w:=by
   intro ad len cap l h lo hi gI pR h1 h2 ei;have c1:(l:Int)<=h:=Ey;have c2:(h:Int)<=cap:=Ey;rcases gI with⟨rfl,rfl⟩|⟨k,rfl⟩<;>rcases pR with⟨rfl,rfl⟩|⟨k',rfl⟩ <;>
    simp[Instr.sliceAt,Instr.slice,Instr.sliceBounds,Instr.sliceBound,asIntOf,run_underlying ht,run_sizeOf ei,h1,h2]
  split at hW
  ·rename_i id sz off len he;rw[he]at hx;split at hW
   ·rename_i dj rows ho;obtain⟨rfl,aO,hW⟩:=hW;obtain⟨h0,cV,_⟩:=h.ec _ _ ho;have key:∀ (l hh:Nat) (ov au:Option Operand),(ov.map a.eval=none/\l=0\/∃ k,ov.map a.eval=some (.int k (l:Int)))->(au.map a.eval=none/\hh=len\/∃ k,au.map a.eval=some (.int k (hh:Int)))->l<=hh->hh<=len ->
      K (σ.put dst (.ref id dj (off+l) (hh-l)))->Bk ⟨dst,.slice t x ov au none,type,pos,after,guard⟩ σ γ a K ((execOp a.eval ⟨dst,.slice t x ov au none,type,pos,after,guard⟩).run P γ.w):=by
     intro l hh ov au gI pR h1 h2 hK;rcases hx.LZ with hg|⟨g1,g2,rfl,rfl,aW⟩|⟨rfl,b,xx,bo,iv,g1,g2,g3,aW⟩|⟨b,o,cap,cap',iv,g1,g2,g3,g4,g5,aW⟩
     ·rw[ho]at hg;simp at hg
     ·have:l=0:=Ey;subst this;have:hh=0:=Ey;subst this;refine dE (o:=⟨dst,.slice t x ov au none,type,pos,after,guard⟩) h ha hd (.ng id _ g1 g2) hK ?_;have:=fj none 0 0 0 0 _ _ gI pR Ey Ey ei;simp only[execOp,Sem.run_bind,aW,rH,this,Result.andThen_ok,Sem.run_pure];simp
     ·have:l=0:=Ey;subst this;have:hh=0:=Ey;subst this;refine dE (o:=⟨dst,.slice t x ov au none,type,pos,after,guard⟩) h ha hd (.nJ id _ _ b xx bo iv g1 g2 Ey) hK ?_;have:=fj (some ⟨b,xx,none⟩) 0 0 0 0 _ _ gI pR Ey Ey ei;simp only[execOp,Sem.run_bind,aW,rH,this,Result.andThen_ok,Sem.run_pure];simp
     ·have hr:=fj (some ⟨b,o+off*dj,none⟩) len cap' l hh _ _ gI pR h1 Ey ei;by_cases hm:cap'=l
      ·have e1:hh=l:=Ey;subst e1;rw[if_pos hm]at hr;have e2:hh-hh=0:=Ey;have e3:cap'-hh=0:=Ey;rw[e2,e3]at hr;rw[e2]at hK;refine dE (o:=⟨dst,.slice t x ov au none,type,pos,after,guard⟩) h ha hd (.nJ id _ _ b (o+off*dj) (o,cap) iv g1 g2 Ey) hK ?_;simp only[execOp,Sem.run_bind,aW,rH,hr,Result.andThen_ok,Sem.run_pure]
      ·rw[if_neg hm]at hr;refine dE (o:=⟨dst,.slice t x ov au none,type,pos,after,guard⟩) h ha hd (.ref id _ (off+l) (hh-l) b o cap (cap'-l) iv g1 g2 Ey Ey Ey) hK ?_;simp only[execOp,Sem.run_bind,aW,rH,hr,Result.andThen_ok,Sem.run_pure,fc,Addr.tu,<- aO];simp[gn,w7]
    split at hW
    ·rename_i e1 e2;have gI:lo=none:=by cases lo<;>simp at e1 ⊢
     have pR:hi=none:=by cases hi<;>simp at e2 ⊢
     subst gI;subst pR;exact key 0 len none none (.inl ⟨rfl,rfl⟩) (.inl ⟨rfl,rfl⟩) Ey (aZ _) (by simpa using hW)
    ·rename_i k l e1 e2;have pR:hi=none:=by cases hi<;>simp at e2 ⊢
     subst pR;obtain⟨lo,rfl,f1⟩:∃y,lo=some y/\ev σ y=.lit (.int k l):=by cases lo<;>simp at e1 ⊢;exact e1
     obtain⟨⟨c1,c2,_⟩,hK⟩:=hW;have hl:=E lo;rw[f1]at hl;refine key l.toNat len (some lo) none (.inr ⟨k,?_⟩) (.inl ⟨rfl,rfl⟩) Ey (aZ _) hK;simp[hl.cO];omega
    ·rename_i k hh e1 e2;have gI:lo=none:=by cases lo<;>simp at e1 ⊢
     subst gI;obtain⟨hi,rfl,f2⟩:∃y,hi=some y/\ev σ y=.lit (.int k hh):=by cases hi<;>simp at e2 ⊢;exact e2
     obtain⟨⟨c1,c2⟩,hK⟩:=hW;have hl:=E hi;rw[f2]at hl;refine key 0 hh.toNat none (some hi) (.inl ⟨rfl,rfl⟩) (.inr ⟨k,?_⟩) Ey Ey (by simpa using hK);simp[hl.cO];omega
    ·rename_i k l k' hh e1 e2;obtain⟨lo,rfl,f1⟩:∃y,lo=some y/\ev σ y=.lit (.int k l):=by cases lo<;>simp at e1 ⊢;exact e1
     obtain⟨hi,rfl,f2⟩:∃y,hi=some y/\ev σ y=.lit (.int k' hh):=by cases hi<;>simp at e2 ⊢;exact e2
     obtain⟨⟨c1,c2,c3⟩,hK⟩:=hW;have hl:=E lo;have E4:=E hi;rw[f1]at hl;rw[f2]at E4;refine key l.toNat hh.toNat (some lo) (some hi) (.inr ⟨k,?_⟩) (.inr ⟨k',?_⟩) Ey Ey hK
     ·simp[hl.cO];omega
     ·simp[E4.cO];omega
    ·exact hW.elim
   ·exact hW.elim
  ·rename_i sz rows he;rw[he]at hx;obtain⟨aO,hW⟩:=hW;have key:∀ (l hh:Nat) (ov au:Option Operand),(ov.map a.eval=none/\l=0\/∃ k,ov.map a.eval=some (.int k (l:Int)))->(au.map a.eval=none/\hh=rows.length\/∃ k,au.map a.eval=some (.int k (hh:Int)))->l<=hh->hh<=rows.length ->
     K (σ.put dst (.tree sz ((rows.drop l).take (hh-l))))->Bk ⟨dst,.slice t x ov au none,type,pos,after,guard⟩ σ γ a K ((execOp a.eval ⟨dst,.slice t x ov au none,type,pos,after,guard⟩).run P γ.w):=by
    intro l hh ov au gI pR h1 h2 hK;rcases hx.Bb.inv with⟨ad,cap,rfl,aW⟩|⟨b,o,cap,f,aW,g1,g2,g3,g4,g5⟩
    ·have e1:hh=0:=by simpa using h2
     subst e1;have e2:l=0:=Ey;subst e2;have hr:=fj ad 0 cap 0 0 _ _ gI pR Ey Ey ei;refine dE (o:=⟨dst,.slice t x ov au none,type,pos,after,guard⟩) h ha hd (v:=.tree sz (([].drop 0).take (0-0))) (cv:=.slice (if cap=0 then ad else ad.map (·.add (0*(ty P (ty P t).elem).size))) (0-0) (cap-0)) (.cN _ _ (.nil sz (cap-0) _)) hK ?_;simp only[execOp,Sem.run_bind,aW,rH,hr,Result.andThen_ok,Sem.run_pure]
    ·have hr:=fj (some ⟨b,o,none⟩) rows.length cap l hh _ _ gI pR h1 Ey ei;by_cases gu:hh-l=0
     ·have e:(rows.drop l).take (hh-l)=[]:=by rw[gu];simp
      rw[e]at hK;rw[gu]at hr;refine dE (o:=⟨dst,.slice t x ov au none,type,pos,after,guard⟩) h ha hd (v:=.tree sz []) (cv:=.slice (if cap=l then some ⟨b,o,none⟩ else(some (⟨b,o,none⟩:Addr)).map (·.add (l*(ty P (ty P t).elem).size))) 0 (cap-l)) (.cN _ _ (.nil sz (cap-l) _)) hK ?_;simp only[execOp,Sem.run_bind,aW,rH,hr,Result.andThen_ok,Sem.run_pure]
     ·have cE:¬ cap=l:=Ey;rw[if_neg cE]at hr;have agD:rows≠[]:=by intro e;subst e;simp at h2;omega
      refine dE (o:=⟨dst,.slice t x ov au none,type,pos,after,guard⟩) h ha hd (.cN _ _ (iT.sub g1 g2 g4 g5 l (hh-l) (cap':=cap-l) Ey g3 Ey)) hK ?_;simp only[execOp,Sem.run_bind,aW,rH,hr,Result.andThen_ok,Sem.run_pure,fc,Addr.tu,<- aO agD]
   split at hW
   ·rename_i e1 e2;have gI:lo=none:=by cases lo<;>simp at e1 ⊢
    have pR:hi=none:=by cases hi<;>simp at e2 ⊢
    subst gI;subst pR;exact key 0 rows.length none none (.inl ⟨rfl,rfl⟩) (.inl ⟨rfl,rfl⟩) Ey (aZ _) (by simpa using hW)
   ·rename_i k l e1 e2;have pR:hi=none:=by cases hi<;>simp at e2 ⊢
    subst pR;obtain⟨lo,rfl,f1⟩:∃y,lo=some y/\ev σ y=.lit (.int k l):=by cases lo<;>simp at e1 ⊢;exact e1
    obtain⟨⟨c1,c2⟩,hK⟩:=hW;have hl:=E lo;rw[f1]at hl;refine key l.toNat rows.length (some lo) none (.inr ⟨k,?_⟩) (.inl ⟨rfl,rfl⟩) Ey (aZ _) ?_
    ·simp[hl.cO];omega
    ·have e:(rows.drop l.toNat).take (rows.length-l.toNat)=rows.drop l.toNat:=List.take_of_length_le G9;rw[e];exact hK
   ·rename_i k hh e1 e2;have gI:lo=none:=by cases lo<;>simp at e1 ⊢
    subst gI;obtain⟨hi,rfl,f2⟩:∃y,hi=some y/\ev σ y=.lit (.int k hh):=by cases hi<;>simp at e2 ⊢;exact e2
    obtain⟨⟨c1,c2⟩,hK⟩:=hW;have hl:=E hi;rw[f2]at hl;refine key 0 hh.toNat none (some hi) (.inl ⟨rfl,rfl⟩) (.inr ⟨k,?_⟩) Ey Ey (by simpa using hK);simp[hl.cO];omega
   ·rename_i k l k' hh e1 e2;obtain⟨lo,rfl,f1⟩:∃y,lo=some y/\ev σ y=.lit (.int k l):=by cases lo<;>simp at e1 ⊢;exact e1
    obtain⟨hi,rfl,f2⟩:∃y,hi=some y/\ev σ y=.lit (.int k' hh):=by cases hi<;>simp at e2 ⊢;exact e2
    obtain⟨⟨c1,c2,c3⟩,hK⟩:=hW;have hl:=E lo;have E4:=E hi;rw[f1]at hl;rw[f2]at E4;refine key l.toNat hh.toNat (some lo) (some hi) (.inr ⟨k,?_⟩) (.inr ⟨k',?_⟩) Ey Ey ?_
    ·simp[hl.cO];omega
    ·simp[E4.cO];omega
    ·rw[<- List.drop_take];exact hK
   ·exact hW.elim
  ·exact hW.elim
 case call c =>
  obtain⟨callee,args,argTypes⟩:=c;have oS:∀ l,args.toList=l->args=l.toArray:=by intro l h;rw[<- h]
  have HW:∀ l,argTypes.toList=l->argTypes=l.toArray:=by intro l h;rw[<- h]
  cases callee with
  |value f=>exact hW.elim
  |invoke r m=>exact hW.elim
  |builtin b =>
   cases b
   case len =>
    simp only at hW;split at hW
    ·rename_i x t cf ku;have ea:=oS _ cf;have et:=HW _ ku;subst ea;subst et;have hx:=E x;have fj:(ty P t).kind=1->∀ ad n c,a.eval x=.slice ad n c->(execOp a.eval ⟨dst,.call ⟨.builtin .len,[x].toArray,[t].toArray⟩,type,pos,after,guard⟩).run P γ.w=.ok (.value (.int .i64 (n:Int))) γ.w:=by
      intro hk ad n c hc;have ht:=vT hk;simp[execOp,resolve,invoke,builtin,Builtin.len_,run_underlying ht,hc,goInt]
     split at hW
     ·rename_i id sz off len he;rw[he]at hx;obtain⟨hk,hW⟩:=hW;split at hW
      ·rename_i dj rows ho;rcases hx.LZ with hg|⟨_,_,_,rfl,aW⟩|⟨rfl,_,_,_,_,_,_,_,aW⟩|⟨b,o,cap,cap',iv,g1,g2,g3,g4,g5,aW⟩
       ·rw[ho]at hg;simp at hg
       ·exact dE h ha hd (.lit _) hW.2 (fj hk _ _ _ aW)
       ·exact dE h ha hd (.lit _) hW.2 (fj hk _ _ _ aW)
       ·exact dE h ha hd (.lit _) hW.2 (fj hk _ _ _ aW)
      ·exact hW.elim
     ·rename_i sz rows he;rw[he]at hx;rcases hx.Bb.inv with⟨ad,cap,rfl,aW⟩|⟨b,o,cap,f,aW,_⟩
      ·exact dE h ha hd (.lit _) hW.2 (fj hW.1 _ _ _ aW)
      ·exact dE h ha hd (.lit _) hW.2 (fj hW.1 _ _ _ aW)
     ·rename_i he;rw[he]at hx;exact dE h ha hd (.lit _) hW.2 (fj hW.1 _ _ _ hx.cO)
     ·rename_i id he;obtain⟨hk,hW⟩:=hW;split at hW
      ·rename_i ag L ho;obtain⟨kt,ht⟩:=L5 hk;rw[he]at hx;obtain⟨_,_,b,f,hb,aW,jt,_⟩:=EW h hx (id:=id) (ag:=ag) (L:=L) (by simp[mW,ho]);refine dE h ha hd (.lit _) hW ?_;simp[execOp,resolve,invoke,builtin,Builtin.len_,run_underlying ht,aW,goInt,MapKept.run_getObj_map jt,c9,rV]
      ·exact hW.elim
     ·exact hW.elim
    ·exact hW.elim
   case append =>
    simp only at hW;split at hW
    ·rename_i s x t t' cf ku;have ea:=oS _ cf;have et:=HW _ ku;subst ea;subst et;split at hW
     ·rename_i z pre σ1 sz src hk hz oh rU;obtain⟨⟨rfl,ei,aO,h0,ot,hlen,E2,ox⟩,hK⟩:=hW;have agE:mB σ sz (ev σ s)=some (pre,σ1):=by rw[aO];exact oh
      obtain⟨qP,γ1,h1,h2,h3,h4,h5⟩:=agF (P:=P) (oty:=type) h hk ei hz aO h0 ot (E s) (E x) agE rU hlen E2 ox;refine C' (γ1:=γ1) h4 h3 (by rw[h2];exact ha) hd h5 hK ?_;simp[execOp,resolve,invoke,builtin,h1]
     ·exact hW.elim
    ·exact hW.elim
   case min =>
    simp only at hW;split at hW
    ·rename_i x y cf;have ea:=oS _ cf;subst ea;have hx:=E x;have hy:=E y;split at hW
     ·rename_i k p k' q he hf;rw[he]at hx;rw[hf]at hy;obtain⟨rfl,hK⟩:=hW;refine dE h ha hd (.lit _) hK ?_;have e:(if q<p then q else p)=min p q:=by simp only[Int.min_def];split<;>split<;>omega
      simp[execOp,resolve,invoke,builtin,Builtin.min_,Builtin.min2,hx.cO,hy.cO,e]
     ·exact hW.elim
    ·exact hW.elim
   case max =>
    simp only at hW;split at hW
    ·rename_i x y cf;have ea:=oS _ cf;subst ea;have hx:=E x;have hy:=E y;split at hW
     ·rename_i k p k' q he hf;rw[he]at hx;rw[hf]at hy;obtain⟨rfl,hK⟩:=hW;refine dE h ha hd (.lit _) hK ?_;have e:(if q > p then q else p)=max p q:=by simp only[Int.max_def];split<;>split<;>omega
      simp[execOp,resolve,invoke,builtin,Builtin.max_,Builtin.max2,hx.cO,hy.cO,e]
     ·exact hW.elim
    ·exact hW.elim
   case copy =>
    simp only at hW;split at hW
    ·rename_i s x t t' cf ku;have ea:=oS _ cf;have et:=HW _ ku;subst ea;subst et;have hs:=E s;split at hW
     ·rename_i id sz off len dj src he rU;rw[he]at hs;split at hW
      ·rename_i lU rows ho;obtain⟨⟨hk,ei,rfl,rfl,aO,h0,ox⟩,hK⟩:=hW;obtain⟨w',h1,h2,h3⟩:=agG (P:=P) (t':=t') (oty:=type) h hk ei aO h0 hs (E x) ho rU ox;refine C' (γ1:={ γ with w:=w' }) h3 h2 ha hd (.lit _) hK ?_;simp[execOp,resolve,invoke,builtin,h1]
      ·exact hW.elim
     ·exact hW.elim
    ·exact hW.elim
   case clear =>
    simp only at hW;split at hW
    ·rename_i s t cf ku;have ea:=oS _ cf;have et:=HW _ ku;subst ea;subst et;have hs:=E s;split at hW
     ·rename_i id sz off len z he hz;rw[he]at hs;split at hW
      ·rename_i dj rows ho;obtain⟨⟨hk,ei,rfl,ot,h0,vW⟩,hK⟩:=hW;obtain⟨w',h1,h2,h3⟩:=agH (P:=P) (oty:=type) h hk ei ot h0 hz vW hs ho;refine C' (γ1:={ γ with w:=w' }) h3 h2 ha hd (.lit _) hK ?_;simp[execOp,resolve,invoke,builtin,h1]
      ·exact hW.elim
     ·exact hW.elim
    ·exact hW.elim
   all_goals exact hW.elim
 case convert s d x =>
  simp only at hW;have hx:=E x;split at hW
  ·rename_i k k' n vQ he;rw[he]at hx;obtain⟨hu,hK⟩:=hW;obtain⟨u,hu⟩:=Option.isSome_iff_exists.1 hu;refine dE h ha hd (.lit _) hK ?_;simp[execOp,convert,run_underlying hu,run_underlying vQ,hx.cO,Conv.intToInt]
  ·exact hW.elim
 all_goals exact hW.elim
end Go.Am

