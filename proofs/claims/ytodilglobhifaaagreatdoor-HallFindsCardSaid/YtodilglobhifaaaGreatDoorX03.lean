import Derived.Test.YtodilglobhifaaaGreatDoorX02
import Derived.MapKept
import Derived.Laws.StructEq
set_option linter.all false
set_option maxHeartbeats 0
set_option maxRecDepth 20000
open List renaming getElem?_take→oP,getElem?_drop→j8,getElem?_set→cj,getElem?_eq_some_iff→ba,ext_getElem→Ax,length_append→aJ,length_singleton→nO,mem_append→bj,mem_singleton→bm,getElem?_append_left→cr,getElem?_append_right→dS,getElem?_cons_zero→sE,ext_getElem?→xP,length_set→bt,mem_or_eq_of_mem_set→qW,getElem?_eq_getElem→bc,getD_eq_getElem?_getD→aw,getElem?_concat_length→Aq,getElem?_map→dm,replicate→ax,range→bD,range_succ→ug,flatMap_append→xR
open Nat renaming add_mul→eI,le_refl→aM,sub_self→kB,ne_of_lt→jL,lt_or_ge→dD,sub_zero→nP,zero_add→gM,add_assoc→p6
open Option renaming some→dv,map_some→g9,map_none→jn,getD_some→dK,bind_some→nN
open Array renaming range→Dp,getElem?_eq_some_iff→kU,getElem?_setIfInBounds_ne→uf,getElem?_toList→vR,getD_eq_getD_getElem?→dC
namespace Go.Am
def TO{P:Program}(w:World)(t e:TypeId)(a:Option Addr)(n c:Nat)(ht:P.underlying t=some (.slice e)):
  (binOp .eql t (.slice a n c) (.slice none 0 0)).run P w=.ok (.bool a.isNone) w:=by
 have h:∀ d:Nat,(Op.equalIn (d+1) t (.slice a n c) (.slice none 0 0)).run P w=.ok a.isNone w:=λd=>by
  cases a<;>simp[Op.equalIn,run_underlying ht]
 simp only[binOp];simp[Op.equal,Op.maxDepth,h 9999]
def TP{P:Program}(w:World)(t e:TypeId)(a:Option Addr)(n c:Nat)(ht:P.underlying t=some (.slice e)):
  (binOp .neq t (.slice a n c) (.slice none 0 0)).run P w=.ok (.bool (!a.isNone)) w:=by
 have h:∀ d:Nat,(Op.equalIn (d+1) t (.slice a n c) (.slice none 0 0)).run P w=.ok a.isNone w:=λd=>by
  cases a<;>simp[Op.equalIn,run_underlying ht]
 simp only[binOp];simp[Op.equal,Op.maxDepth,h 9999]
variable {P:Program}
def KV(w:World)(t:TypeId){e:TypeId}(a:Addr)(n c:Nat)(ht:P.underlying t=some (.slice e)):
  (binOp .eql t (.slice (some a) n c) (.slice none 0 0)).run P w=.ok (.bool false) w:=by
 have h:∀ d:Nat,(Op.equalIn (d+1) t (.slice (some a) n c) (.slice none 0 0)).run P w=.ok false w:=λd=>by
  simp[Op.equalIn,run_underlying ht]
 simp only[binOp];simp[Op.equal,Op.maxDepth,h 9999]
def TQ(w:World)(t:TypeId){e:TypeId}(a:Addr)(n c:Nat)(ht:P.underlying t=some (.slice e)):
  (binOp .neq t (.slice (some a) n c) (.slice none 0 0)).run P w=.ok (.bool true) w:=by
 have h:∀ d:Nat,(Op.equalIn (d+1) t (.slice (some a) n c) (.slice none 0 0)).run P w=.ok false w:=λd=>by
  simp[Op.equalIn,run_underlying ht]
 simp only[binOp];simp[Op.equal,Op.maxDepth,h 9999]
def aq.Ei{os:List Ob}{w:World}{Z:Nat->Prop}{blk:eW}{id r c:Nat}{cv:Value}(h:aq os w Z blk (.ptr id r c) cv):
  os[id]?=some .gone\/(∃ b cap cells,os[id]?=some (.var cells)/\blk id=some (b,0,cap)/\r=0/\cv=.pointer (some ⟨b,c,none⟩)) \/
  (∃ sz b o cap rows,os[id]?=some (.arr sz rows)/\blk id=some (b,o,cap)/\cv=.pointer (some ⟨b,o+(r*sz+c),none⟩)):=by
 cases h with
 |bO _ _ h=>cases h
 |ki _ _ _ _ h=>exact .inl h
 |kG _ _ b cap cells h hb=>exact .inr (.inl ⟨b,cap,cells,h,hb,rfl,rfl⟩)
 |ld _ _ _ sz b o cap rows h hb=>exact .inr (.inr ⟨sz,b,o,cap,rows,h,hb,rfl⟩)
def aq.Ej{os:List Ob}{w:World}{Z:Nat->Prop}{blk:eW}{cells:List AV}{cv:Value}(h:aq os w Z blk (.cm cells) cv):
  ∃ b o,∃ f:Nat->Value,cv=.pointer (some ⟨b,o,none⟩)/\Z b/\(∀ j x,cells[j]?=some x->w.cell? ⟨b,o+j,none⟩=some (f j))/\∀ j x,cells[j]?=some x->eR w Z x (f j):=by
 cases h with
 |bO _ _ h=>cases h
 |cm _ b o f h1 h2 h3=>exact⟨b,o,f,rfl,h1,h2,h3⟩
def aq.Ek{os:List Ob}{w:World}{Z:Nat->Prop}{blk:eW}{id sz off len:Nat}{cv:Value}(h:aq os w Z blk (.ref id sz off len) cv):
  os[id]?=some .gone\/(os[id]?=some (.arr sz [])/\blk id=none/\off=0/\len=0/\cv=.slice none 0 0) \/
  (len=0/\∃ b x bo rows,os[id]?=some (.arr sz rows)/\blk id=some (b,bo)/\off<=rows.length/\cv=.slice (some ⟨b,x,none⟩) 0 0) \/
  (∃ b o cap cap' rows,os[id]?=some (.arr sz rows)/\blk id=some (b,o,cap)/\off+len<=rows.length/\off+cap'<=cap/\len<=cap'/\cv=.slice (some ⟨b,o+off*sz,none⟩) len cap'):=by
 cases h with
 |bO _ _ h=>cases h
 |iz _ _ _ _ _ h=>exact .inl h
 |ju _ _ h hb=>exact .inr (.inl ⟨h,hb,rfl,rfl,rfl⟩)
 |jV _ _ _ b x bo rows h hb hl=>exact .inr (.inr (.inl ⟨rfl,b,x,bo,rows,h,hb,hl,rfl⟩))
 |ref _ _ _ _ b o cap cap' rows h hb hl hc dt=>exact .inr (.inr (.inr ⟨b,o,cap,cap',rows,h,hb,hl,hc,dt,rfl⟩))
def aq.KH{os:List Ob}{w:World}{Z:Nat->Prop}{blk:eW}{cs:List AV}{cv:Value}(h:aq os w Z blk (.agg cs) cv):
  ∃ aI,cv=.agg aI/\aI.size=cs.length/\∀ j x,cs[j]?=some x->aq os w Z blk x (aI.getD j Go.undef):=by
 cases h with
 |bO _ _ h=>cases h
 |agg _ aI h1 h2=>exact⟨aI,rfl,h1,h2⟩
def aq.KI{os:List Ob}{w:World}{Z:Nat->Prop}{blk:eW}{cs:List AV}{cv:Value}(h:aq os w Z blk (.bP cs) cv):
  ∃ aI,cv=.tuple aI/\aI.size=cs.length/\∀ j x,cs[j]?=some x->aq os w Z blk x (aI.getD j Go.undef):=by
 cases h with
 |bO _ _ h=>cases h
 |bP _ aI h1 h2=>exact⟨aI,rfl,h1,h2⟩
def aq.DT{os:List Ob}{w:World}{Z:Nat->Prop}{blk:eW}{f:FuncId}{cs:List AV}{cv:Value}(h:aq os w Z blk (.fn f cs) cv):
  ∃ aI,cv=.func (.func f) #[] aI/\aI.size=cs.length/\∀ j x,cs[j]?=some x->aq os w Z blk x (aI.getD j Go.undef):=by
 cases h with
 |bO _ _ h=>cases h
 |fn _ _ aI h1 h2=>exact⟨aI,rfl,h1,h2⟩
def aq.KS{os:List Ob}{w:World}{Z:Nat->Prop}{blk:eW}{t:TypeId}{v:AV}{cv:Value}(h:aq os w Z blk (.fj t v) cv):∃x,cv=.iface t x/\aq os w Z blk v x:=by
 cases h with
 |bO _ _ h=>cases h
 |fj _ _ x h=>exact⟨x,rfl,h⟩
def eR.inv{w:World}{Z:Nat->Prop}{sz:Nat}{rows:List (List AV)}{cv:Value}(h:eR w Z (.tree sz rows) cv):
  (∃ a cap,rows=[]/\cv=.slice a 0 cap)\/∃ b o cap,∃ f:Nat->Nat->Value,cv=.slice (some ⟨b,o,none⟩) rows.length cap/\Z b/\(∀ row∈rows,row.length=sz)/\rows.length<=cap /\
   (∀ r c x,cellAt rows r c=some x->w.cell? ⟨b,o+(r*sz+c),none⟩=some (f r c))/\∀ r c x,cellAt rows r c=some x->eR w Z x (f r c):=by
 cases h with
 |nil _ cap a=>exact .inl ⟨a,cap,rfl,rfl⟩
 |tree _ _ b o cap f h1 h2 h3 h4 h5=>exact .inr ⟨b,o,cap,f,rfl,h1,h2,h3,h4,h5⟩
def eR.sub{w:World}{Z:Nat->Prop}{sz:Nat}{rows:List (List AV)}{b o cap cap':Nat}{f:Nat->Nat->Value}(hz:Z b)(hr:∀ row∈rows,row.length=sz)(hc:∀ r c x,cellAt rows r c=some x->w.cell? ⟨b,o+(r*sz+c),none⟩=some (f r c))(ht:∀ r c x,cellAt rows r c=some x->eR w Z x (f r c))(lo n:Nat)(hn:n<=cap')(_hcap:rows.length<=cap)(kk:lo+n<=rows.length):
  eR w Z (.tree sz ((rows.drop lo).take n)) (.slice (some ⟨b,o+lo*sz,none⟩) n cap'):=by
 have hlen:((rows.drop lo).take n).length=n:=aab;have ql:∀ r c x,cellAt ((rows.drop lo).take n) r c=some x->cellAt rows (lo+r) c=some x:=by
  intro r c x hx;simp only[cellAt,oP,j8]at hx;split at hx
  ·exact hx
  ·simp at hx
 have:=eR.tree (w:=w) (Z:=Z) sz ((rows.drop lo).take n) b (o+lo*sz) cap' (λr c=>f (lo+r) c) hz (λrow h=>hr row (List.mem_of_mem_drop (List.mem_of_mem_take h))) Ay
  (λr c x hx=>by
   have h1:=hc _ _ _ (ql r c x hx);rw[eI]at h1;have e:o+(lo*sz+r*sz+c)=o+lo*sz+(r*sz+c):=Ay;rw[e]at h1;exact h1) (λr c x hx=>ht _ _ _ (ql r c x hx))
 rw[hlen]at this;exact this
def Bs{o:Oper}{σ:St}{γ:Cx}{a:Act}{K:St->Prop}(h:aZ σ γ)(ha:γ.tmps=a.tmps)(hd:∀ d,o.dst=some d->d<a.tmps.size){ob:Ob}{cur:Array Value}{t:TypeId}{cap:Nat}(bb:pg σ.aa γ.w γ.Z γ.blk 0 cap cur ob){v:AV}{cv:Value}(hv:aq (σ.aa++[ob]) (γ.w.alloc (.cells cur t)) γ.Z (bZ γ.blk σ.aa.length (some (γ.w.heap.size,0,cap))) v cv)(hK:K (({ σ with aa:=σ.aa++[ob] }:St).put o.dst v)){r:Result Next}(hr:r=.ok (.value cv) (γ.w.alloc (.cells cur t))):uP o σ γ a K r :=
 wz (σ1:={ σ with aa:=σ.aa++[ob] }) (γ1:={ γ with w:=γ.w.alloc (.cells cur t),blk:=bZ γ.blk σ.aa.length (some (γ.w.heap.size,0,cap)) })
  (Fr.push (t:=t) (cur:=cur) ob rfl rfl rfl rfl) (h.push (t:=t) (cur:=cur) rfl bb) ha hd hv hK hr
def rp(gj:List (Value×Value)):(eN gj).toList=gj.mapIdx λi p=>(⟨p.1,p.2,i⟩:MapEntry):=by simp[eN]
def KW(L:List (Value×Value))(p:Value×Value):(eN L).push ⟨p.1,p.2,L.length⟩=eN (L++[p]):=by
 apply Array.toList_inj.1;rw[Array.toList_push,rp,rp,List.mapIdx_append];simp
def El(L:List (Value×Value))(i:Nat)(f:MapEntry->MapEntry)(p:Value×Value)(hf:∀ q,L[i]?=some q->f ⟨q.1,q.2,i⟩=⟨p.1,p.2,i⟩):(eN L).modify i f=eN (L.set i p):=by
 apply Array.ext_getElem?;intro j;rw[Array.getElem?_modify];simp only[eN,List.getElem?_toArray,List.getElem?_mapIdx,cj];by_cases h:i=j
 ·subst h;rw[if_pos rfl,if_pos rfl];cases hq:L[i]? with
  |none =>
   have:¬ i<L.length:=by
    have:=List.getElem?_eq_none_iff.1 hq;omega
   simp[this]
  |some q =>
   have:i<L.length:=(ba.1 hq).1;simp[this,hf q hq]
 ·rw[if_neg h,if_neg h]
def uQ(ag:Nat)(f:Nat->Value)(L:List (List Int×AV)):(cw ag f L).length=L.length:=by unfold cw;simp
def ph(ag:Nat)(f:Nat->Value)(L:List (List Int×AV))(j:Nat):(cw ag f L)[j]?=(L[j]?).map λp=>(kV ag p.1,f j):=by unfold cw;simp
def rq{l:List Int}:∀ {L:List (List Int×AV)} {i j:Nat},dP l L i=some j->i<=j/\∃ v,L[j-i]?=some (l,v)
 |[],_,_,h=>by cases h
 |p::r,i,j,h=>by
  rw[dP]at h;split at h
  ·rename_i hp;cases h;exact⟨aM _,p.2,by rw[kB];simp[<- hp]⟩
  ·obtain⟨h1,v,h2⟩:=rq h;have e:j-i=(j-(i+1))+1:=Ay;exact⟨Ay,v,by rw[e,List.getElem?_cons_succ];exact h2⟩
def yC{σ:St}{γ:Cx}(h:aZ σ γ){v:AV}{cv:Value}(hv:aq σ.aa γ.w γ.Z γ.blk v cv){id ag:Nat}{L:List (List Int×AV)}(hm:jo σ v=some (id,ag,L)):
  v=.dx id/\σ.aa[id]?=some (.mp ag L)/\∃ b,∃ f:Nat->Value,γ.blk id=some (b,0,0)/\cv=.map (some b)/\γ.w.heap[b]?=some (.map (eN (cw ag f L)) L.length)/\(∀ p∈L,p.1.length=gA ag)/\∀ (j:Nat) p,L[j]?=some p->aq σ.aa γ.w γ.Z γ.blk p.2 (f j):=by
 unfold jo at hm;split at hm
 ·rename_i uM;split at hm
  ·rename_i fT L' ho;simp only[dv.injEq,Prod.mk.injEq]at hm;obtain⟨rfl,rfl,rfl⟩:=hm;obtain⟨b,f,h1,h2,h3,h4⟩:=h.dL _ _ ho;cases hv with
   |bO _ _ h=>cases h
   |ng _ _ h' _=>rw[ho]at h';simp at h'
   |dx _ b' _ _ h' hb =>
    rw[h1]at hb;simp only[dv.injEq,Prod.mk.injEq,and_true]at hb;subst hb;exact⟨rfl,ho,b,f,h1,rfl,h2,h3,h4⟩
  ·cases hm
 ·cases hm
def Em{os:List Ob}{w:World}{Z:Nat->Prop}{blk:eW}{v:AV}{cv:Value}(hv:aq os w Z blk v cv){ag:Nat}{l:List Int}(hk:keyOf v=some (ag,l))(hl:l.length=gA ag):cv=kV ag l:=by
 unfold keyOf at hk;split at hk
 ·simp only[dv.injEq,Prod.mk.injEq]at hk;obtain⟨rfl,rfl⟩:=hk;rw[hv.bQ];rfl
 ·rename_i cs;cases hi:lE cs with
  |none=>simp[hi]at hk
  |some as =>
   simp only[hi,g9,dv.injEq,Prod.mk.injEq]at hk;obtain⟨rfl,rfl⟩:=hk;have:=En hv hi;rw[this];unfold gA at hl;unfold kV;by_cases h0:as.length=0
   ·rw[if_pos h0]at hl;omega
   ·rw[if_neg h0]
 ·cases hk
def TR{t:TypeId}{ag:Nat}(pj:gF P t ag){z:Value}{w:World}(hz:∀ kt et,P.underlying t=some (.map kt et)->(zeroValue et).run P w=.ok z w){b:Nat}{f:Nat->Value}{L:List (List Int×AV)}(hb:w.heap[b]?=some (.map (eN (cw ag f L)) L.length))(hL:∀ p∈L,p.1.length=gA ag){l:List Int}(hl:l.length=gA ag):
  (Instr.lookup t (.map (some b)) (kV ag l) false).run P w=.ok (((dP l L 0).map f).getD z) w:=by
 obtain⟨kt,et,ht,hk⟩:=pj;obtain⟨h1,h2,h3⟩:=hk l hl;simp only[Instr.lookup,Sem.run_bind,run_underlying ht,MapKept.run_getObj_map hb,h1,h3 f L w hL,Result.andThen_ok,Sem.run_pure];cases h:dP l L 0 with
 |none=>simp[hz kt et ht]
 |some q=>simp
def TS{t:TypeId}{ag:Nat}(pj:gF P t ag){w:World}{b:Nat}{f:Nat->Value}{L:List (List Int×AV)}(hb:w.heap[b]?=some (.map (eN (cw ag f L)) L.length))(hL:∀ p∈L,p.1.length=gA ag){l:List Int}(hl:l.length=gA ag)(v:AV)(cv:Value):
  ∃ f':Nat->Value,(Instr.mapUpdate t (.map (some b)) (kV ag l) cv).run P w=.ok () { w with heap:=w.heap.setIfInBounds b (.map (eN (cw ag f' (cB l v L))) (cB l v L).length) } /\
   (∀ p∈cB l v L,p.1.length=gA ag)/\∀ (j:Nat) p,(cB l v L)[j]?=some p->(p.2=v/\f' j=cv)\/(L[j]?=some p/\f' j=f j):=by
 obtain⟨kt,et,ht,hk⟩:=pj;obtain⟨h1,h2,h3⟩:=hk l hl;simp only[Instr.mapUpdate,Sem.run_bind,run_underlying ht,MapKept.run_getObj_map hb,h1,h3 f L w hL,Result.andThen_ok];unfold cB;cases h:dP l L 0 with
 |none =>
  refine⟨λj=>if j=L.length then cv else f j,?_,λp hp=>?_,λj p hp=>?_⟩
  ·have e:=KW (cw ag f L) (kV ag l,cv);rw[uQ]at e;have e2:cw ag f L++[(kV ag l,cv)]=cw ag (λj=>if j=L.length then cv else f j) (L++[(l,v)]):=by
    unfold cw;rw[List.mapIdx_append];congr 1
    ·apply Ax
     ·simp
     ·intro j h5 h6;have:j<L.length:=by simpa using h5
      simp[jL this]
    ·simp
   simp only[jn,MapKept.run_setObj_map _ hb,e,e2,aJ,nO]
  ·rcases bj.1 hp with hp|hp
   ·exact hL p hp
   ·rw[bm.1 hp];exact hl
  ·rcases dD j L.length with hj|hj
   ·rw[cr hj]at hp;exact .inr ⟨hp,by dsimp only;rw[if_neg Ay]⟩
   ·rw[dS hj]at hp;have:j=L.length:=by
     have:=(ba.1 hp).1;simp at this;omega
    subst this;simp only[kB,sE,dv.injEq]at hp;subst hp;exact .inl ⟨rfl,by dsimp only;rw[if_pos rfl]⟩
 |some q =>
  obtain⟨_,u,hu⟩:=rq h;rw[nP]at hu;have hq:=(ba.1 hu).1;refine⟨λj=>if j=q then cv else f j,?_,λp hp=>?_,λj p hp=>?_⟩
  ·have wA:(((eN (cw ag f L))[q]?).map (·.key)).getD (kV ag l)=kV ag l:=by
    simp[eN,ph,hu]
   have e:=El (cw ag f L) q (λe=>{ e with key:=kV ag l,val:=cv }) (kV ag l,cv) (λ_ _=>rfl);have e2:(cw ag f L).set q (kV ag l,cv)=cw ag (λj=>if j=q then cv else f j) (L.set q (l,v)):=by
    apply xP;intro j;rw[cj,ph,ph,cj,uQ];by_cases hj:q=j
    ·subst hj;simp[hq]
    ·rw[if_neg hj,if_neg hj,if_neg (Ne.symm hj)]
   simp only[g9,wA,h2,Result.andThen_ok,MapKept.run_setObj_map _ hb,Sem.run_bind];rw[e,e2,bt]
  ·rcases qW hp with hp|hp
   ·exact hL p hp
   ·rw[hp];exact hl
  ·simp only[cj]at hp;by_cases hj:q=j
   ·subst hj;rw[if_pos rfl,if_pos hq]at hp;cases hp;exact .inl ⟨rfl,by dsimp only;rw[if_pos rfl]⟩
   ·rw[if_neg hj]at hp;exact .inr ⟨hp,by dsimp only;rw[if_neg (Ne.symm hj)]⟩
def aZ.TT{σ:St}{γ:Cx}(h:aZ σ γ){id:Nat}{ob ob':Ob}(ho:σ.aa[id]?=some ob)(hg:ob≠.gone)(pc:ob.db ob'){b o cap:Nat}(hb:γ.blk id=some (b,o,cap)){w':World}(lh:∀ k,k≠b->w'.heap[k]?=γ.w.heap[k]?):∀ v cv,aq σ.aa γ.w γ.Z γ.blk v cv->aq (σ.aa.set id ob') w' γ.Z γ.blk v cv:=by
 have cp:id<σ.aa.length:=(ba.1 ho).1;have jY:Live σ.aa id:=⟨ob,ho,hg⟩;exact λv cv hv =>
  hv.mono (λz hz=>⟨hz,lh z (λe=>h.nz b ⟨id,o,cap,jY,hb⟩ (e▸hz))⟩) (λi x hx=>by
   rw[cj];by_cases kl:id=i
   ·subst kl;rw[ho]at hx;simp at hx;subst hx;right;refine⟨rfl,ob',by simp[cp],pc⟩
   ·rw[if_neg kl];by_cases bX:x=.gone
    ·subst bX;exact .inl hx
    ·exact .inr ⟨rfl,x,hx,Ob.gV bX⟩)
def TU{t:TypeId}{ag:Nat}(pj:gF P t ag){z:Value}{w:World}(hz:∀ kt et,P.underlying t=some (.map kt et)->(zeroValue et).run P w=.ok z w){b:Nat}{f:Nat->Value}{L:List (List Int×AV)}(hb:w.heap[b]?=some (.map (eN (cw ag f L)) L.length))(hL:∀ p∈L,p.1.length=gA ag){l:List Int}(hl:l.length=gA ag):
  ∃ f':Nat->Value,(Instr.mapEntry t (.map (some b)) (kV ag l)).run P w=.ok (.tuple #[((dP l L 0).map f).getD z,.int .i64 (qe l L:Nat)]) { w with heap:=w.heap.setIfInBounds b (.map (eN (cw ag f' (cB l ((kh l L).getD (.lit z)) L))) (cB l ((kh l L).getD (.lit z)) L).length) } /\
   (∀ p∈cB l ((kh l L).getD (.lit z)) L,p.1.length=gA ag)/\∀ (j:Nat) p,(cB l ((kh l L).getD (.lit z)) L)[j]?=some p->(p.2=(kh l L).getD (.lit z)/\f' j=((dP l L 0).map f).getD z)\/(L[j]?=some p/\f' j=f j):=by
 obtain⟨kt,et,ht,hk⟩:=pj;obtain⟨h1,h2,h3⟩:=hk l hl;generalize hv:(kh l L).getD (.lit z)=v;simp only[Instr.mapEntry,Sem.run_bind,run_underlying ht,MapKept.run_getObj_map hb,h1,h3 f L w hL,Result.andThen_ok];unfold cB qe;cases h:dP l L 0 with
 |none =>
  refine⟨λj=>if j=L.length then z else f j,?_,λp hp=>?_,λj p hp=>?_⟩
  ·have e:=KW (cw ag f L) (kV ag l,z);rw[uQ]at e;have e2:cw ag f L++[(kV ag l,z)]=cw ag (λj=>if j=L.length then z else f j) (L++[(l,v)]):=by
    unfold cw;rw[List.mapIdx_append];congr 1
    ·apply Ax
     ·simp
     ·intro j h5 h6;have:j<L.length:=by simpa using h5
      simp[jL this]
    ·simp
   simp only[jn,hz kt et ht,Result.andThen_ok,MapKept.run_setObj_map _ hb,Sem.run_bind,e,e2,aJ,nO,Sem.run_pure,Option.getD_none,goInt]
  ·rcases bj.1 hp with hp|hp
   ·exact hL p hp
   ·rw[bm.1 hp];exact hl
  ·rcases dD j L.length with hj|hj
   ·rw[cr hj]at hp;exact .inr ⟨hp,by dsimp only;rw[if_neg Ay]⟩
   ·rw[dS hj]at hp;have:j=L.length:=by
     have:=(ba.1 hp).1;simp at this;omega
    subst this;simp only[kB,sE,dv.injEq]at hp;subst hp;exact .inl ⟨rfl,by dsimp only;rw[if_pos rfl];rfl⟩
 |some q =>
  obtain⟨_,u,hu⟩:=rq h;rw[nP]at hu;have hq:=(ba.1 hu).1;refine⟨f,?_,λp hp=>?_,λj p hp=>?_⟩
  ·have wA:(((eN (cw ag f L))[q]?).map (·.key)).getD (kV ag l)=kV ag l:=by
    simp[eN,ph,hu]
   have TV:(((eN (cw ag f L))[q]?).map (λe=>(e.born:Int))).getD 0=(q:Int):=by
    simp[eN,ph,hu]
   have e:=El (cw ag f L) q (λe=>{ e with key:=kV ag l }) (kV ag l,f q) (λx hx=>by
    rw[ph,hu]at hx;cases hx;rfl)
   have e2:(cw ag f L).set q (kV ag l,f q)=cw ag f (L.set q (l,v)):=by
    apply xP;intro j;rw[cj,ph,ph,cj,uQ];by_cases hj:q=j
    ·subst hj;simp[hq]
    ·rw[if_neg hj,if_neg hj]
   simp only[g9,wA,h2,Result.andThen_ok,MapKept.run_setObj_map _ hb,Sem.run_bind,Sem.run_pure,TV,dK,goInt];rw[e,e2,bt]
  ·rcases qW hp with hp|hp
   ·exact hL p hp
   ·rw[hp];exact hl
  ·simp only[cj]at hp;by_cases hj:q=j
   ·subst hj;rw[if_pos rfl,if_pos hq]at hp;cases hp;exact .inl ⟨rfl,rfl⟩
   ·rw[if_neg hj]at hp;exact .inr ⟨hp,rfl⟩
def TW(gj:List (Value×Value)){n:Nat}(hn:n<gj.length):(eN gj).findIdx? (λe=>(e.born:Int)==(n:Int))=some n:=by
 unfold eN;rw[List.findIdx?_toArray,List.findIdx?_eq_some_iff_getElem];refine⟨by simpa using hn,Dg,λj hj=>?_⟩;simp only[List.getElem_mapIdx];simp;omega
def TX{t:TypeId}{ag:Nat}{w:World}{b:Nat}{f:Nat->Value}{L:List (List Int×AV)}(hb:w.heap[b]?=some (.map (eN (cw ag f L)) L.length)){n:Nat}(hn:n<L.length)(v:AV)(cv:Value):
  (Instr.entryStore t (.map (some b)) (.int .i64 (n:Nat)) cv).run P w=.ok () { w with heap:=w.heap.setIfInBounds b (.map (eN (cw ag (λj=>if j=n then cv else f j) (k9 n v L))) (k9 n v L).length) }:=by
 have hf:=TW (cw ag f L) (n:=n) (by rw[uQ];exact hn);have e:=El (cw ag f L) n (λe=>{ e with val:=cv }) (kV ag (L.getD n ([],.undef)).1,cv) (λx hx=>by
  rw[ph,bc hn]at hx;cases hx;rw[aw,bc hn];rfl)
 have e2:(cw ag f L).set n (kV ag (L.getD n ([],.undef)).1,cv)=cw ag (λj=>if j=n then cv else f j) (k9 n v L):=by
  unfold k9;apply xP;intro j;rw[cj,ph,ph,cj,uQ];by_cases hj:n=j
  ·subst hj;simp[hn]
  ·rw[if_neg hj,if_neg hj,if_neg (Ne.symm hj)]
 simp only[Instr.entryStore,Sem.run_bind,MapKept.run_getObj_map hb,asInt,asIntOf,Sem.run_pure,Result.andThen_ok,hf,MapKept.run_setObj_map _ hb];rw[e,e2];simp[k9]
def Eo{P:Program}{t:TypeId}(h:(ty P t).kind=8):∃kt,P.underlying t=some (.map kt (ty P t).elem):=by
 unfold ty at h ⊢;cases hi:P.info? t<;>cases hd:P.underlying t<;>simp[hi,hd]at h ⊢;rename_i i d;cases d<;>simp at h ⊢
def Tx{o:Oper}{σ:St}{K:St->Prop}(hW:bF P o σ K){γ:Cx}(h:aZ σ γ){a:Act}(ha:γ.tmps=a.tmps)(hd:∀ d,o.dst=some d->d<a.tmps.size):
  uP o σ γ a K ((execOp a.eval o).run P γ.w):=by
 obtain⟨dst,op,type,pos,after,guard⟩:=o;unfold bF at hW;have E:=λx=>mz h ha x;cases op
 case move x=>exact cf h ha hd (E x) hW (by simp[execOp])
 case assign x=>exact cf h ha hd (E x) hW (by simp[execOp])
 case pick c x y =>
  simp only at hW;have hc:=E c;split at hW
  ·rename_i t he;rw[he]at hc;have aW:=hc.bQ;refine cf h ha hd (v:=ef t (ev σ x) (ev σ y)) (cv:=if t then a.eval x else a.eval y) ?_ hW (by simp[execOp,aW,asBool]);unfold ef;split
   ·rename_i x' y' h1 h2;have hx:=E x;have hy:=E y;rw[h1]at hx;rw[h2]at hy;rw[hx.bQ,hy.bQ];cases t<;>exact .lit _
   ·cases t
    ·exact E y
    ·exact E x
  ·exact hW.elim
 case alloc e =>
  simp only at hW;obtain⟨aQ,hW⟩:=hW;split at hW
  ·rename_i z hz;obtain⟨v,hv,TY⟩:=KX aQ hz γ.w;obtain⟨l1,l2⟩:=Ep (os:=σ.aa) (w:=γ.w) (Z:=γ.Z) (blk:=γ.blk) z;refine Bs (ob:=.var (z.map .lit)) (v:=.ptr σ.aa.length 0 0) (cv:=.pointer (some ⟨γ.w.heap.size,0,none⟩)) (cap:=0) (cur:=z.toArray) (t:=e) h ha hd ⟨rfl,Dg,l2⟩ ?_ hW ?_
   ·exact .kG _ 0 _ 0 _ (Aq ..) (by simp[bZ])
   ·simp[execOp,Instr.alloc,hv,newVar,newRow,TY]
  ·exact hW.elim
 case box e x =>
  simp only at hW;obtain⟨hs,hK⟩:=hW;obtain⟨c1,c2,c3⟩:=Er (E x) hs;refine Bs (ob:=.var (cellsOf (ev σ x))) (cv:=.pointer (some ⟨γ.w.heap.size,0,none⟩)) (cap:=0) (cur:=(a.eval x).cells) (t:=e) h ha hd ⟨rfl,c1,c2⟩ ?_ hK ?_
  ·exact .kG _ 0 _ 0 _ (Aq ..) (by simp[bZ])
  ·simp[execOp,Instr.box,newVar,newRow]
 case build t parts =>
  simp only at hW;split at hW
  ·rename_i z hk hz;split at hW
   ·rename_i cs hf;obtain⟨⟨hs,hp⟩,hK⟩:=hW;obtain⟨cur,h1,h2⟩:=TZ h ha hk hz hf hs hp;exact cf h ha hd h2 hK (by simp only[execOp,Sem.run_bind,h1,Result.andThen_ok,Sem.run_pure])
   ·exact hW.elim
  ·rename_i z hk hz;split at hW
   ·rename_i cs hf;obtain⟨⟨hs,hp⟩,hK⟩:=hW;obtain⟨cur,h1,h2⟩:=T1 h ha hk hz hf hs hp;exact cf h ha hd h2 hK (by simp only[execOp,Sem.run_bind,h1,Result.andThen_ok,Sem.run_pure])
   ·exact hW.elim
  ·exact hW.elim
 case buildSlice t len parts =>
  simp only at hW;split at hW
  ·rename_i z hk hz;split at hW
   ·rename_i cs hf;obtain⟨⟨cL,h0,iY,T2,hs⟩,hK⟩:=hW;have ht:=oe hk;obtain⟨i,d,hi,Bt,pk,_,hzero⟩:=pq cL;obtain⟨zv,T3,gg⟩:=KX cL hz γ.w;have Bu:0<z.length:=by rw[iY];exact h0
    obtain⟨hl,hr⟩:=Es h ha parts;obtain⟨cur,f1,f2⟩:=Bv (σ:=σ) (γ:=γ) _ _ _ _ cs hl hr (λp hp=>by
     simp only[List.mem_map]at hp;obtain⟨q,hq,rfl⟩:=hp;rw[List.all_eq_true]at hs;exact hs q hq) (Et z len (len*(ty P (ty P t).elem).size) (by rw[iY]) Bu) hf
    have ZX:cs.length=len*(ty P (ty P t).elem).size:=by
     have:=Et (os:=σ.aa) (w:=γ.w) (Z:=γ.Z) (blk:=γ.blk) z len (len*(ty P (ty P t).elem).size) (by rw[iY]) Bu;have h1:∀ (parts:List (Nat×AV)) (cs nh:List AV) (place:Nat->Option (Nat×Nat)),jN place cs parts=some nh->nh.length=cs.length:=by
      intro parts
      induction parts with
      |nil=>intro cs nh place h;simp[jN]at h;rw[h]
      |cons p parts ih =>
       intro cs nh place h;obtain⟨i,v⟩:=p;simp only[jN]at h;split at h
       ·simp at h
       ·split at h
        ·rw[ih _ _ _ h,Eu]
        ·simp at h
     rw[h1 _ _ _ _ hf,<- this.1];simp
    have hmul:len*(ty P (ty P t).elem).size<=16777216:=T2;have hlen:len<=maxLen:=by
     have:len*1<=len*(ty P (ty P t).elem).size:=Nat.mul_le_mul_left _ h0;unfold maxLen;omega
    have dF:(Instr.buildSlice t len (parts.map λ(i,x)=>(i,a.eval x))).run P γ.w=.ok (.slice (some ⟨γ.w.heap.size,0,none⟩) len len) (γ.w.alloc (.cells cur (ty P t).elem)):=by
     have s0:¬ (len*(ty P (ty P t).elem).size > 2^24):=Ay;by_cases hl0:len*(ty P (ty P t).elem).size=0
     ·rw[hl0]at f1;have e0:((Dp 0).map λx=>(#[]:Array Value)[x%(#[]:Array Value).size]!)=((Dp 0).map (z.toArray[· % z.toArray.size]!)):=Dg;simp only[Instr.buildSlice,Sem.run_bind,run_underlying ht,Result.andThen_ok,run_sizeOf cL,if_false,hl0,if_true,Sem.run_pure,Nat.not_lt_zero,gt_iff_lt];rw[e0,f1];simp[newRow]
     simp only[Instr.buildSlice,Sem.run_bind,run_underlying ht,Result.andThen_ok,run_sizeOf cL,s0,if_false,hl0,T3,Sem.run_pure,gg];rw[show((Dp (len*(ty P (ty P t).elem).size)).map λx=>z.toArray[x%z.toArray.size]!)=((Dp (len*(ty P (ty P t).elem).size)).map (z.toArray[· % z.toArray.size]!)) from rfl,f1];simp[newRow]
    refine Bs (ob:=.arr (ty P (ty P t).elem).size (jO (ty P (ty P t).elem).size len cs)) (cv:=.slice (some ⟨γ.w.heap.size,0,none⟩) len len) (cap:=len) (cur:=cur) (t:=(ty P t).elem) h ha hd ?_ ?_ hK ?_
    ·refine⟨h0,KY _ _ _ Ay,by rw[f2.1];omega,by rw[Ev];omega,hlen,?_⟩;intro r c v hv;rw[gM];exact f2.2 _ _ (KZ _ _ _ _ _ _ hv)
    ·have:=aq.ref (os:=σ.aa++[.arr (ty P (ty P t).elem).size (jO (ty P (ty P t).elem).size len cs)]) (w:=γ.w.alloc (.cells cur (ty P t).elem)) (Z:=γ.Z) (blk:=bZ γ.blk σ.aa.length (some (γ.w.heap.size,0,len)))
      σ.aa.length (ty P (ty P t).elem).size 0 len γ.w.heap.size 0 len len _ (by simp;rfl) (by simp[bZ]) (by rw[Ev];omega) Ay (aM _)
     simpa using this
    ·simp only[execOp,Sem.run_bind,dF,Result.andThen_ok,Sem.run_pure]
   ·exact hW.elim
  ·exact hW.elim
 case load t x =>
  simp only at hW;obtain⟨hk,hW⟩:=hW;have hx:=E x;split at hW
  ·rename_i id r c he;rw[he]at hx;split at hW
   ·rename_i row aP;obtain⟨v,lK,h1,h2,h3⟩:=Ef h hk hx aP hW;exact cf h ha hd h2 h3 (by simp only[execOp,Sem.run_bind,h1,Result.andThen_ok,Sem.run_pure])
   ·exact hW.elim
  ·rename_i cells he;rw[he]at hx;obtain⟨v,lK,h1,h2,h3⟩:=T4 h hk hx hW;exact cf h ha hd h2 h3 (by simp only[execOp,Sem.run_bind,h1,Result.andThen_ok,Sem.run_pure])
  ·exact hW.elim
 case store t x y =>
  simp only at hW;obtain⟨hk,hW⟩:=hW;have hx:=E x;split at hW
  ·rename_i id r c he;rw[he]at hx;split at hW
   ·rename_i row aP;obtain⟨hc,hK⟩:=hW;obtain⟨w',h1,h2,h3⟩:=T5 h hk hx aP (E y) hc;exact Ew h3 h2 ha hd hK (by simp only[execOp,Sem.run_bind,h1,Result.andThen_ok,Sem.run_pure])
   ·exact hW.elim
  ·exact hW.elim
 case nilCheck x =>
  simp only at hW;have hx:=E x;split at hW
  ·rename_i id r c he;rw[he]at hx;cases ho:σ.aa[id]? with
   |none=>simp[ho]at hW
   |some ob =>
    have bx:ob≠.gone/\K (σ.put dst (.ptr id r c)):=by cases ob<;>simp[ho]at hW ⊢<;>exact hW
    have aW :∃ad,a.eval x=.pointer (some ad):=by
     rcases hx.Ei with h|⟨b,cap,cells,_,_,_,h⟩|⟨_,b,o,cap,rows,_,_,h⟩
     ·rw[ho]at h;simp at h;exact absurd h bx.1
     ·exact⟨_,h⟩
     ·exact⟨_,h⟩
    obtain⟨ad,aW⟩:=aW;exact cf h ha hd hx bx.2 (by simp[execOp,aW])
  ·rename_i cells he;rw[he]at hx;have aW :∃ad,a.eval x=.pointer (some ad):=by
    obtain⟨b,o,f,h,_⟩:=hx.Ej;exact⟨_,h⟩
   obtain⟨ad,aW⟩:=aW;exact cf h ha hd hx hW (by simp[execOp,aW])
  ·exact hW.elim
 case binOp op t x y yt =>
  simp only at hW;have hx:=E x;have hy:=E y;split at hW
  ·rename_i k p k' q he hf;rw[he]at hx;rw[hf]at hy;obtain⟨rfl,hW⟩:=hW;obtain⟨v,h1,h2⟩:=T6 (P:=P) hW t γ.w;refine cf h ha hd (.lit v) h2 ?_;simp[execOp,hx.bQ,hy.bQ,eqGuard,h1]
  ·rename_i p q he hf;rw[he]at hx;rw[hf]at hy;obtain⟨hk,hW⟩:=hW;have ht:=T7 hk;split at hW
   ·refine cf h ha hd (.lit _) hW ?_;simp[execOp,hx.bQ,hy.bQ,eqGuard,run_eql_bool γ.w t p q ht]
   ·refine cf h ha hd (.lit _) hW ?_;simp[execOp,hx.bQ,hy.bQ,eqGuard,run_neq_bool γ.w t p q ht,bne]
   ·exact hW.elim
  ·rename_i sz rows he hf;rw[he]at hx;rw[hf]at hy;obtain⟨⟨hk,hr⟩,hW⟩:=hW;have ht:=oe hk;rcases hx.wu.inv with⟨ad,cap,rfl,aW⟩|⟨b,o,cap,f,aW,_⟩
   ·exact absurd hr Dg
   split at hW
   ·refine cf h ha hd (.lit _) hW ?_;simp[execOp,aW,hy.bQ,eqGuard,KV γ.w t _ _ _ ht]
   ·refine cf h ha hd (.lit _) hW ?_;simp[execOp,aW,hy.bQ,eqGuard,TQ γ.w t _ _ _ ht]
   ·exact hW.elim
  ·rename_i ad n c he hf;rw[he]at hx;rw[hf]at hy;obtain⟨hk,hW⟩:=hW;have ht:=oe hk;split at hW
   ·refine cf h ha hd (.lit _) hW ?_;simp[execOp,hx.bQ,hy.bQ,eqGuard,TO γ.w t _ _ _ _ ht]
   ·refine cf h ha hd (.lit _) hW ?_;simp[execOp,hx.bQ,hy.bQ,eqGuard,TP γ.w t _ _ _ _ ht]
   ·exact hW.elim
  ·rename_i cs ds he hf;rw[he]at hx;rw[hf]at hy;split at hW
   ·rename_i as bs uH Bw;obtain⟨⟨hq,hlen,K3⟩,hW⟩:=hW;have dQ:=En hx uH;have Bx:=En hy Bw;have heq:=hq γ.w as bs rfl hlen;split at hW
    ·refine cf h ha hd (.lit _) hW ?_;simp only[execOp,dQ,Bx,Sem.run_bind,run_eqGuard_agg γ.w _ _ _ _ _ _ K3,run_eql_struct,heq,Result.andThen_ok,Sem.run_pure]
    ·refine cf h ha hd (.lit _) hW ?_;simp only[execOp,dQ,Bx,Sem.run_bind,run_eqGuard_agg γ.w _ _ _ _ _ _ K3,run_neq_struct,heq,Result.andThen_ok,Sem.run_pure]
    ·exact hW.elim
   ·exact hW.elim
  ·exact hW.elim
 case unOp op t x =>
  simp only at hW;have hx:=E x;split at hW
  ·rename_i b he;rw[he]at hx;exact cf h ha hd (.lit _) hW (by simp[execOp,hx.bQ,Op.unary])
  ·rename_i k n he;rw[he]at hx;unfold oZ at hW;split at hW
   ·exact cf h ha hd (.lit _) hW (by simp[execOp,hx.bQ,Op.unary,Op.intArith])
   ·exact cf h ha hd (.lit _) hW.2 (by simp[execOp,hx.bQ,Op.unary,Op.intArith,s5 hW.1])
  ·exact hW.elim
 case makeMap t r =>
  simp only at hW;obtain⟨⟨rfl,hk⟩,hK⟩:=hW;refine wz (σ1:={ σ with aa:=σ.aa++[.mp (uI P t) []] }) (γ1:={ γ with w:=γ.w.alloc (.map #[] 0),blk:=bZ γ.blk σ.aa.length (some (γ.w.heap.size,0,0)) })
   (Fr.yD (cap:=0) _ rfl rfl rfl rfl) (h.yD (cap:=0) rfl λos' w' gW hR hb hx=>⟨_,λ_=>Go.undef,hb,hx,Dg,Dg⟩) ha hd
   (v:=.dx σ.aa.length) (cv:=.map (some γ.w.heap.size)) (.dx _ _ _ _ (Aq ..) (by simp[bZ])) hK ?_
  simp[execOp,Instr.makeMap,newObj,Sem.run]
 case lookup t x i ok =>
  simp only at hW;split at hW
  ·rename_i ag l id fT L z eA lU iL;obtain⟨⟨pj,rfl,hl,Ex,rfl⟩,hK⟩:=hW;obtain⟨kt,ht⟩:=Eo Ex;obtain⟨_,ho,b,f,hb,aW,ic,hL,jz⟩:=yC h (E x) lU;have pt:=Em (E i) eA hl;have hz:∀ yE uR,P.underlying t=some (.map yE uR)->(zeroValue uR).run P γ.w=.ok z γ.w:=by
    intro yE uR h';rw[ht]at h';cases h';unfold zeroV at iL;split at iL
    ·rename_i ii hi;simp[zeroValue,typeInfo,hi,iL]
    ·cases iL
   have dF:=TR (P:=P) pj hz ic hL hl;refine cf (cv:=((dP l L 0).map f).getD z) h ha hd ?_ hK (by simp only[execOp,aW,pt,Sem.run_bind,dF,Result.andThen_ok,Sem.run_pure]);unfold kh;cases hf:dP l L 0 with
   |none=>exact .lit z
   |some q =>
    obtain⟨_,u,hu⟩:=rq hf;rw[nP]at hu;simp only[nN,hu,g9,dK];exact jz q _ hu
  ·exact hW.elim
 case mapUpdate t m k x =>
  simp only at hW;split at hW
  ·rename_i ag l id fT L eA lU;obtain⟨⟨pj,rfl,hl⟩,hK⟩:=hW;obtain⟨_,ho,b,f,hb,aW,ic,hL,jz⟩:=yC h (E m) lU;have pt:=Em (E k) eA hl;obtain⟨f',dF,nj,gD⟩:=TS (P:=P) pj ic hL hl (ev σ x) (a.eval x);have ru:b<γ.w.heap.size:=(kU.1 ic).1;refine Ew (σ1:={ σ with aa:=σ.aa.set id (.mp fT (cB l (ev σ x) L)) }) (γ1:={ γ with w:={ γ.w with heap:=γ.w.heap.setIfInBounds b (.map (eN (cw fT f' (cB l (ev σ x) L))) (cB l (ev σ x) L).length) } })
    (Fr.write (.mp fT (cB l (ev σ x) L)) ho Dg rfl hb (λk hk=>by simp[uf (Ne.symm hk)]) Dg rfl rfl rfl)
    (h.By (ob':=.mp fT (cB l (ev σ x) L)) ho Dg rfl hb (λk hk=>by simp[uf (Ne.symm hk)]) Dg λos' hR=>⟨b,f',hb,by simp[ru],nj,λj p hp=>?_⟩) ha hd hK ?_
   ·rcases gD j p hp with⟨h1,h2⟩|⟨h1,h2⟩
    ·rw[h1,h2];exact hR _ _ (E x)
    ·rw[h2];exact hR _ _ (jz j p h1)
   ·simp only[execOp,aW,pt,Sem.run_bind,dF,Result.andThen_ok,Sem.run_pure]
  ·exact hW.elim
 case mapEntry t m k =>
  simp only at hW;split at hW
  ·rename_i ag l id fT L z eA lU iL;obtain⟨⟨pj,rfl,hl,Ex⟩,hK⟩:=hW;obtain⟨kt,ht⟩:=Eo Ex;obtain⟨_,ho,b,f,hb,aW,ic,hL,jz⟩:=yC h (E m) lU;have pt:=Em (E k) eA hl;have hz:∀ yE uR,P.underlying t=some (.map yE uR)->(zeroValue uR).run P γ.w=.ok z γ.w:=by
    intro yE uR h';rw[ht]at h';cases h';unfold zeroV at iL;split at iL
    ·rename_i ii hi;simp[zeroValue,typeInfo,hi,iL]
    ·cases iL
   obtain⟨f',dF,nj,gD⟩:=TU (P:=P) pj hz ic hL hl;have ru:b<γ.w.heap.size:=(kU.1 ic).1;have hold:aq σ.aa γ.w γ.Z γ.blk ((kh l L).getD (.lit z)) (((dP l L 0).map f).getD z):=by
    unfold kh;cases hf:dP l L 0 with
    |none=>exact .lit z
    |some q =>
     obtain⟨_,u,hu⟩:=rq hf;rw[nP]at hu;simp only[nN,hu,g9,dK];exact jz q _ hu
   generalize (kh l L).getD (.lit z)=v at *;generalize ((dP l L 0).map f).getD z=cv at *;have T8:∀ x y,aq σ.aa γ.w γ.Z γ.blk x y->aq (σ.aa.set id (.mp fT (cB l v L))) { γ.w with heap:=γ.w.heap.setIfInBounds b (.map (eN (cw fT f' (cB l v L))) (cB l v L).length) } γ.Z γ.blk x y :=
    h.TT (ob':=.mp fT (cB l v L)) ho Dg rfl hb (λk hk=>by simp[uf (Ne.symm hk)])
   refine wz (σ1:={ σ with aa:=σ.aa.set id (.mp fT (cB l v L)) }) (γ1:={ γ with w:={ γ.w with heap:=γ.w.heap.setIfInBounds b (.map (eN (cw fT f' (cB l v L))) (cB l v L).length) } })
    (Fr.write (.mp fT (cB l v L)) ho Dg rfl hb (λk hk=>by simp[uf (Ne.symm hk)]) Dg rfl rfl rfl)
    (h.By (ob':=.mp fT (cB l v L)) ho Dg rfl hb (λk hk=>by simp[uf (Ne.symm hk)]) Dg λos' hR=>⟨b,f',hb,by simp[ru],nj,λj p hp=>?_⟩) ha hd
    (v:=.bP [v,aah (qe l L:Nat)]) (cv:=.tuple #[cv,.int .i64 (qe l L:Nat)]) (.bP _ _ rfl λj x hx=>?_) hK ?_
   ·rcases gD j p hp with⟨h1,h2⟩|⟨h1,h2⟩
    ·rw[h1,h2];exact hR _ _ hold
    ·rw[h2];exact hR _ _ (jz j p h1)
   ·match j,hx with
    |0,hx=>cases hx;exact T8 _ _ hold
    |1,hx=>cases hx;exact .lit _
   ·simp only[execOp,aW,pt,Sem.run_bind,dF,Result.andThen_ok,Sem.run_pure]
  ·exact hW.elim
 case entryStore t m s x =>
  simp only at hW;split at hW
  ·rename_i n id ag L hs lU;obtain⟨⟨lV,lM⟩,hK⟩:=hW;obtain⟨_,ho,b,f,hb,aW,ic,hL,jz⟩:=yC h (E m) lU;have K4:=E s;rw[hs]at K4;have jy:=K4.bQ;have hn:n=((n.toNat:Nat):Int):=Ay;have dF:=TX (P:=P) (t:=t) ic (n:=n.toNat) Ay (ev σ x) (a.eval x);rw[<- hn]at dF;have ru:b<γ.w.heap.size:=(kU.1 ic).1;refine Ew (σ1:={ σ with aa:=σ.aa.set id (.mp ag (k9 n.toNat (ev σ x) L)) }) (γ1:={ γ with w:={ γ.w with heap:=γ.w.heap.setIfInBounds b (.map (eN (cw ag (λj=>if j=n.toNat then a.eval x else f j) (k9 n.toNat (ev σ x) L))) (k9 n.toNat (ev σ x) L).length) } })
    (Fr.write (.mp ag (k9 n.toNat (ev σ x) L)) ho Dg rfl hb (λk hk=>by simp[uf (Ne.symm hk)]) Dg rfl rfl rfl)
    (h.By (ob':=.mp ag (k9 n.toNat (ev σ x) L)) ho Dg rfl hb (λk hk=>by simp[uf (Ne.symm hk)]) Dg λos' hR=>⟨b,λj=>if j=n.toNat then a.eval x else f j,hb,by simp only[Array.getElem?_setIfInBounds_self_of_lt ru],λp hp=>?_,λj p hp=>?_⟩) ha hd hK ?_
   ·unfold k9 at hp;rcases qW hp with hp|hp
    ·exact hL p hp
    ·have iV:n.toNat<L.length:=Ay;rw[hp,aw,bc iV];exact hL L[n.toNat] (List.getElem_mem iV)
   ·unfold k9 at hp;simp only[cj]at hp;by_cases hj:n.toNat=j
    ·subst hj;rw[if_pos rfl,if_pos Ay]at hp;cases hp;dsimp only;rw[if_pos rfl];exact hR _ _ (E x)
    ·rw[if_neg hj]at hp;dsimp only;rw[if_neg (Ne.symm hj)];exact hR _ _ (jz j p hp)
   ·simp only[execOp,aW,jy,Sem.run_bind,dF,Result.andThen_ok,Sem.run_pure]
  ·exact hW.elim
 case index t x i =>
  simp only at hW;split at hW
  ·rename_i s k n hs hi;obtain⟨⟨hu,lV,lM⟩,hK⟩:=hW;have hx:=E x;rw[hs]at hx;have hj:=E i;rw[hi]at hj;have bw:n.toNat<s.size:=Ay;have hg:s[n.toNat]?=some s[n.toNat]:=by simp[bw]
   refine cf h ha hd (.lit _) hK ?_;simp only[execOp,hx.bQ,hj.bQ,Instr.index,asIntOf,Sem.run_bind,Sem.run_pure,Result.andThen_ok,run_underlying hu,if_pos lV,hg,qf]
  ·exact hW.elim
 case makeInterface t x =>
  simp only at hW;obtain⟨h1,hK⟩:=hW;refine cf h ha hd (v:=.fj t (ev σ x)) (cv:=.iface t (a.eval x)) (.fj _ _ _ (E x)) hK ?_;unfold uJ at h1;cases hu:P.underlying t with
  |none=>simp[hu]at h1
  |some d=>cases d<;>simp[hu]at h1<;>simp[execOp,Instr.makeInterface,run_underlying hu]
 case typeAssert x xt asserted ok =>
  simp only at hW;have hx:=E x;split at hW
  ·rename_i t v he;rw[he]at hx;obtain⟨cx,hc,hv⟩:=hx.KS;obtain⟨⟨h1,rfl,rfl⟩,hK⟩:=hW;refine cf h ha hd hv hK ?_;unfold uJ at h1;cases hu:P.underlying t with
   |none=>simp[hu]at h1
   |some d=>cases d<;>simp[hu]at h1<;>simp[execOp,hc,Instr.typeAssert,run_underlying hu]
  ·exact hW.elim
 case makeFunc fn first captured =>
  simp only at hW;split at hW
  ·rename_i f;obtain⟨hf,hK⟩:=hW;have T9:first = #[]:=Array.eq_empty_of_size_eq_zero hf
   subst T9;refine cf h ha hd (v:=.fn f (captured.toList.map (ev σ))) (cv:=.func (.func f) #[] (captured.map a.eval)) ?_ hK (by simp[execOp,Instr.makeFunc]);refine .fn _ _ _ Dg (λj x hj=>?_);simp only[dm]at hj;cases hc:captured.toList[j]? with
   |none=>simp[hc]at hj
   |some y =>
    simp[hc]at hj;subst hj;simp only[vR]at hc;simp[dC,hc];exact E y
  ·exact hW.elim
 case makeSlice t l c =>
  simp only at hW;have hl:=E l;have hc:=E c;split at hW
  ·rename_i z k n k' n' hk hz he hf;rw[he]at hl;rw[hf]at hc;obtain⟨⟨cL,h0,iY,rfl,lV,lM,yF,_⟩,hK,_⟩:=hW;have ht:=oe hk;obtain⟨i,d,hi,Bt,pk,yG,hzero⟩:=pq cL;obtain⟨zv,uS,gg⟩:∃zv,i.zero=some zv/\zv.cells=z.toArray:=by
    rw[hzero]at hz;cases hv:i.zero with
    |none=>simp[hv]at hz
    |some v=>simp[hv]at hz;exact⟨v,rfl,by rw[<- hz]⟩
   have hb:(i.bytes:Int)*n'<=281474976710656:=by
    have h1:(i.bytes:Int)<=128:=by rw[<- yG];exact_mod_cast yF
    have h2:(i.bytes:Int)*n'<=128*n':=Int.mul_le_mul_of_nonneg_right h1 lV;omega
   have hr:=run_make (P:=P) γ.w t _ i zv ht hi uS k k' n' n' lV (Int.le_refl _) hb Ay;rw[<- pk,gg]at hr;have Bu:0<z.length:=by rw[iY];exact h0
   obtain⟨z1,z2⟩:=Et (os:=σ.aa) (w:=γ.w) (Z:=γ.Z) (blk:=γ.blk) z n'.toNat (n'.toNat*(ty P (ty P t).elem).size) (by rw[iY]) Bu;refine Bs (ob:=.arr (ty P (ty P t).elem).size (ax n'.toNat (z.map .lit))) (cv:=.slice (some ⟨γ.w.heap.size,0,none⟩) n'.toNat n'.toNat) (cap:=n'.toNat) (cur:=madeCells z.toArray (n'.toNat*(ty P (ty P t).elem).size)) (t:=(ty P t).elem) h ha hd ?_ ?_ hK ?_
   ·refine⟨h0,?_,by rw[size_madeCells];omega,Dg,by unfold maxLen;omega,?_⟩
    ·intro row aP;simp only[List.mem_replicate]at aP;rw[aP.2];simp[iY]
    ·intro r c v hv;rw[gM];have dH:r<n'.toNat:=by
      simp only[cellAt,Option.bind_eq_some_iff]at hv;obtain⟨y,hy,_⟩:=hv;have:=(ba.1 hy).1;simpa using this
     simp only[cellAt,List.getElem?_replicate,dH,if_true,nN]at hv;have cS:c<(ty P (ty P t).elem).size:=by
      have:=(ba.1 hv).1;simp at this;omega
     have bw:=uN dH cS;have hx:((bD n'.toNat).flatMap λ_=>z.map AV.lit)[r*(ty P (ty P t).elem).size+c]?=some v:=by
      have key:∀ (m r:Nat),r<m->((bD m).flatMap λ_=>z.map AV.lit)[r*z.length+c]?=(z.map AV.lit)[c]?:=by
       intro m;have hlen:∀ m,((bD m).flatMap λ_=>z.map AV.lit).length=m*z.length:=by
        intro m
        induction m with
        |zero=>simp
        |succ m ih=>rw[ug,xR,aJ,ih];simp[eI]
       induction m with
       |zero=>intro r hr;omega
       |succ m ih =>
        intro r hr;rw[ug,xR];by_cases Ey:r<m
        ·rw[cr (by rw[hlen,iY];exact uN Ey cS)];exact ih r Ey
        ·have:r=m:=Ay;subst this;rw[dS (by rw[hlen];omega),hlen];simp
      rw[<- iY,key _ _ dH];exact hv
     exact z2 _ _ hx
   ·have:=aq.ref (os:=σ.aa++[.arr (ty P (ty P t).elem).size (ax n'.toNat (z.map .lit))]) (w:=γ.w.alloc (.cells (madeCells z.toArray (n'.toNat*(ty P (ty P t).elem).size)) (ty P t).elem)) (Z:=γ.Z) (blk:=bZ γ.blk σ.aa.length (some (γ.w.heap.size,0,n'.toNat)))
     σ.aa.length (ty P (ty P t).elem).size 0 n'.toNat γ.w.heap.size 0 n'.toNat n'.toNat _ (Aq ..) (by simp[bZ]) Dg Ay (aM _)
    simpa using this
   ·simp only[execOp,Sem.run_bind,hl.bQ,hc.bQ,hr,Result.andThen_ok,Sem.run_pure]
  ·exact hW.elim
 case fieldAddr s x f =>
  simp only at hW;have hx:=E x;split at hW
  ·rename_i off ft size hk fV;obtain⟨aE,hW⟩:=hW;obtain⟨fs,hu,og⟩:=Ez hk;obtain⟨fd,uT,yj,nk⟩:∃fd:Field,fs[f]?=some fd/\fd.offset=off/\rv P fd.type=size:=by
    rw[og]at fV;simp only[dm,vR]at fV;cases hg:fs[f]? with
    |none=>simp[hg]at fV
    |some fd=>simp[hg]at fV;exact⟨fd,rfl,fV.1,fV.2.2⟩
   have dF:∀ (b o:Nat),(Instr.fieldAt s (.pointer (some ⟨b,o,none⟩)) f).run P γ.w=.ok (.pointer (some ⟨b,o+off,none⟩)) γ.w:=by
    intro b o;have T':(sizeOf fd.type).run P γ.w=.ok size γ.w:=by
     rw[<- nk];unfold rv at nk ⊢;cases hi:P.info? fd.type with
     |none=>rw[hi]at nk;simp at nk;omega
     |some i=>simp[sizeOf,typeInfo,hi]
    have bI:¬ size=0:=Ay;simp[Instr.fieldAt,run_underlying hu,uT,Instr.sureAddr,fieldPlace,T',bI,Addr.nm,yj]
   split at hW
   ·rename_i id r c he;rw[he]at hx;cases ho:σ.aa[id]? with
    |none=>simp[ho]at hW
    |some ob =>
     have bx:ob≠.gone/\K (σ.put dst (.ptr id r (c+off))):=by cases ob<;>simp[ho]at hW ⊢<;>exact hW
     rcases hx.Ei with hg|⟨b,cap,cells,h1,h2,rfl,aW⟩|⟨sz,b,o,cap,rows,h1,h2,aW⟩
     ·rw[ho]at hg;simp at hg;exact absurd hg bx.1
     ·exact cf h ha hd (.kG id (c+off) b cap cells h1 h2) bx.2 (by simp only[execOp,Sem.run_bind,aW,dF,Result.andThen_ok,Sem.run_pure])
     ·refine cf h ha hd (.ld id r (c+off) sz b o cap rows h1 h2) bx.2 ?_;simp only[execOp,Sem.run_bind,aW,dF,Result.andThen_ok,Sem.run_pure];simp[p6]
   ·rename_i cells he;rw[he]at hx;obtain⟨b,o,g,aW,h1,h2,h3⟩:=hx.Ej;refine cf h ha hd (.cm (cells.drop off) b (o+off) (λj=>g (off+j)) h1 ?_ ?_) hW ?_
    ·intro j x hj;rw[j8]at hj;have:=h2 _ _ hj;simpa [p6] using this
    ·intro j x hj;rw[j8]at hj;exact h3 _ _ hj
    ·simp only[execOp,Sem.run_bind,aW,dF,Result.andThen_ok,Sem.run_pure]
   ·exact hW.elim
  ·exact hW.elim
 case extract x i =>
  simp only at hW;have hx:=E x;split at hW
  ·rename_i vs he;rw[he]at hx;obtain⟨aI,aW,hs,hr⟩:=hx.KI;split at hW
   ·rename_i v hv;have hi:i<aI.size:=by rw[hs];exact(ba.1 hv).1
    refine cf h ha hd (hr i v hv) hW ?_;simp[execOp,aW,Instr.extract,hi,dC]
   ·exact hW.elim
  ·exact hW.elim
 case field s x f =>
  simp only at hW;have hx:=E x;split at hW
  ·rename_i off ft size hk fV;obtain⟨cL,pk,hW⟩:=hW;obtain⟨fs,hu,og⟩:=Ez hk;obtain⟨fd,uT,yj,nk⟩:∃fd:Field,fs[f]?=some fd/\fd.offset=off/\fd.type=ft:=by
    rw[og]at fV;simp only[dm,vR]at fV;cases hg:fs[f]? with
    |none=>simp[hg]at fV
    |some fd=>simp[hg]at fV;exact⟨fd,rfl,fV.1,fV.2.1⟩
   subst yj;subst nk;split at hW
   ·rename_i cs he;rw[he]at hx;obtain⟨aI,aW,hs,hr⟩:=hx.KH;split at hW
    ·rename_i jA;refine cf h ha hd (v:=.agg ((cs.drop fd.offset).take size)) (cv:=.agg (aI.extract fd.offset (fd.offset+size))) ?_ hW.2 ?_
     ·have h1:=hW.1;refine .agg _ _ aab (λj y hj=>?_);have gR:j<size:=by have:=(ba.1 hj).1;simp at this;omega
      rw[oP,if_pos gR,j8]at hj;have:=hr _ _ hj;simp[dC,Array.getElem?_extract]at this ⊢;rw[if_pos Ay];exact this
     ·simp[execOp,aW,Instr.field,run_underlying hu,uT,asAgg,part,EA cL,run_sizeOf cL,jA,pk]
    ·rename_i jA;split at hW
     ·rename_i v hv;have hi:fd.offset<aI.size:=by rw[hs];exact(ba.1 hv).1
      refine cf h ha hd (hr _ v hv) hW ?_;simp[execOp,aW,Instr.field,run_underlying hu,uT,asAgg,part,EA cL,jA,hi,dC]
     ·exact hW.elim
   ·exact hW.elim
  ·exact hW.elim
 case indexAddr t x i =>
  simp only at hW;have hx:=E x;have hi:=E i;split at hW
  ·rename_i id sz off len k n hk he hf;rw[he]at hx;rw[hf]at hi;split at hW
   ·rename_i bV rows ho;obtain⟨⟨rfl,aE,cL,h0,h1⟩,hK⟩:=hW;have ht:=oe hk;rcases hx.Ek with hg|⟨_,_,_,rfl,_⟩|⟨rfl,_⟩|⟨b,o,cap,cap',eV,g1,g2,g3,g4,g5,aW⟩
    ·rw[ho]at hg;simp at hg
    ·omega
    ·omega
    ·refine cf h ha hd (.ld id (off+n.toNat) 0 _ b o cap eV g1 g2) hK ?_;have hc:0<=n/\n<(len:Int):=⟨h0,h1⟩;simp only[execOp,Sem.run_bind,Instr.indexAt,aW,hi.bQ,asIntOf,Sem.run_pure,Result.andThen_ok,run_underlying ht,Sem.run_ite,hc,and_self,if_true,run_sizeOf cL,<- aE,Addr.nm];simp[eI,p6]
   ·exact hW.elim
  ·rename_i sz rows k n hk he hf;rw[he]at hx;rw[hf]at hi;obtain⟨⟨aE,cL,h0,h1⟩,hK⟩:=hW;have ht:=oe hk;rcases hx.wu.inv with⟨ad,cap,rfl,aW⟩|⟨b,o,cap,f,aW,g1,g2,g3,g4,g5⟩
   ·simp at h1;omega
   ·have hn:n.toNat<rows.length:=Ay;refine cf h ha hd (.cm (rows.getD n.toNat []) b (o+n.toNat*sz) (λj=>f n.toNat j) g1 ?_ ?_) hK ?_
    ·intro j y hj;have:cellAt rows n.toNat j=some y:=by
      rw[aw]at hj;simp[hn]at hj;simp[cellAt,hn,hj]
     have:=g4 _ _ _ this;simpa [p6] using this
    ·intro j y hj;have:cellAt rows n.toNat j=some y:=by
      rw[aw]at hj;simp[hn]at hj;simp[cellAt,hn,hj]
     exact g5 _ _ _ this
    ·have hc:0<=n/\n<(rows.length:Int):=⟨h0,Ay⟩;simp only[execOp,Sem.run_bind,Instr.indexAt,aW,hi.bQ,asIntOf,Sem.run_pure,Result.andThen_ok,run_underlying ht,Sem.run_ite,hc,and_self,if_true,run_sizeOf cL,<- aE,Addr.nm]
  ·rename_i id r c k n hk he hf;rw[he]at hx;rw[hf]at hi;cases ho:σ.aa[id]? with
   |none=>simp[ho]at hW
   |some ob =>
    have bx:ob≠.gone/\((ty P (ty P t).elem).kind≠99/\0<=n/\n<(ty P t).len)/\K (σ.put dst (.ptr id r (c+n.toNat*(ty P (ty P t).elem).size))):=by cases ob<;>simp[ho]at hW ⊢<;>exact hW
    obtain⟨Ua,⟨cL,h0,h1⟩,hK⟩:=bx;have ht:=EB hk;have hc:0<=n/\n<((ty P t).len:Int):=⟨h0,h1⟩;rcases hx.Ei with hg|⟨b,cap,cells,h1,h2,rfl,aW⟩|⟨sz,b,o,cap,rows,h1,h2,aW⟩
    ·rw[ho]at hg;simp at hg;exact absurd hg Ua
    ·refine cf h ha hd (.kG id _ b cap cells h1 h2) hK ?_;simp only[execOp,Sem.run_bind,Instr.indexAt,aW,hi.bQ,asIntOf,Sem.run_pure,Result.andThen_ok,run_underlying ht,Instr.sureAddr,Sem.run_ite,hc,and_self,if_true,run_sizeOf cL,Addr.nm]
    ·refine cf h ha hd (.ld id r _ sz b o cap rows h1 h2) hK ?_;simp only[execOp,Sem.run_bind,Instr.indexAt,aW,hi.bQ,asIntOf,Sem.run_pure,Result.andThen_ok,run_underlying ht,Instr.sureAddr,Sem.run_ite,hc,and_self,if_true,run_sizeOf cL,Addr.nm];simp[p6]
  ·rename_i cells k n hk he hf;rw[he]at hx;rw[hf]at hi;obtain⟨⟨cL,h0,h1⟩,hK⟩:=hW;have ht:=EB hk;have hc:0<=n/\n<((ty P t).len:Int):=⟨h0,h1⟩;obtain⟨b,o,g,aW,g1,g2,g3⟩:=hx.Ej;refine cf h ha hd (.cm (cells.drop (n.toNat*(ty P (ty P t).elem).size)) b (o+n.toNat*(ty P (ty P t).elem).size) (λj=>g (n.toNat*(ty P (ty P t).elem).size+j)) g1 ?_ ?_) hK ?_
   ·intro j x hj;rw[j8]at hj;rw[p6];exact g2 _ _ hj
   ·intro j x hj;rw[j8]at hj;exact g3 _ _ hj
   ·simp only[execOp,Sem.run_bind,Instr.indexAt,aW,hi.bQ,asIntOf,Sem.run_pure,Result.andThen_ok,run_underlying ht,Instr.sureAddr,Sem.run_ite,hc,and_self,if_true,run_sizeOf cL,Addr.nm]
  ·exact hW.elim
 case slice t x lo hi mx =>
  simp only at hW;obtain⟨hk,cL,rfl,hW⟩:=hW;have ht:=oe hk;have hx:=E x;have dF:∀ (ad:Option Addr) (len cap l h:Nat) (lo hi:Option Value),(lo=none/\l=0\/∃ k,lo=some (.int k (l:Int)))->(hi=none/\h=len\/∃ k,hi=some (.int k (h:Int)))->l<=h->h<=cap ->
    (ty P (ty P t).elem).kind≠99->(Instr.sliceAt t (.slice ad len cap) lo hi none).run P γ.w=.ok (.slice (if cap=l then ad else ad.map (·.add (l*(ty P (ty P t).elem).size))) (h-l) (cap-l)) γ.w:=by
   intro ad len cap l h lo hi kk lk h1 h2 cL;have c1:(l:Int)<=h:=Ay;have c2:(h:Int)<=cap:=Ay;rcases kk with⟨rfl,rfl⟩|⟨k,rfl⟩<;>rcases lk with⟨rfl,rfl⟩|⟨k',rfl⟩ <;>
    simp[Instr.sliceAt,Instr.slice,Instr.sliceBounds,Instr.sliceBound,asIntOf,run_underlying ht,run_sizeOf cL,h1,h2]
  split at hW
  ·rename_i id sz off len he;rw[he]at hx;split at hW
   ·rename_i bV rows ho;obtain⟨rfl,aE,hW⟩:=hW;obtain⟨h0,dH,_⟩:=h.dL _ _ ho;have key:∀ (l hh:Nat) (iZ hi':Option Operand),(iZ.map a.eval=none/\l=0\/∃ k,iZ.map a.eval=some (.int k (l:Int)))->(hi'.map a.eval=none/\hh=len\/∃ k,hi'.map a.eval=some (.int k (hh:Int)))->l<=hh->hh<=len ->
      K (σ.put dst (.ref id bV (off+l) (hh-l)))->uP ⟨dst,.slice t x iZ hi' none,type,pos,after,guard⟩ σ γ a K ((execOp a.eval ⟨dst,.slice t x iZ hi' none,type,pos,after,guard⟩).run P γ.w):=by
     intro l hh iZ hi' kk lk h1 h2 hK;rcases hx.Ek with hg|⟨g1,g2,rfl,rfl,aW⟩|⟨rfl,b,xx,bo,eV,g1,g2,g3,aW⟩|⟨b,o,cap,cap',eV,g1,g2,g3,g4,g5,aW⟩
     ·rw[ho]at hg;simp at hg
     ·have:l=0:=Ay;subst this;have:hh=0:=Ay;subst this;refine cf (o:=⟨dst,.slice t x iZ hi' none,type,pos,after,guard⟩) h ha hd (.ju id _ g1 g2) hK ?_;have:=dF none 0 0 0 0 _ _ kk lk Ay Ay cL;simp only[execOp,Sem.run_bind,aW,jn,this,Result.andThen_ok,Sem.run_pure];simp
     ·have:l=0:=Ay;subst this;have:hh=0:=Ay;subst this;refine cf (o:=⟨dst,.slice t x iZ hi' none,type,pos,after,guard⟩) h ha hd (.jV id _ _ b xx bo eV g1 g2 Ay) hK ?_;have:=dF (some ⟨b,xx,none⟩) 0 0 0 0 _ _ kk lk Ay Ay cL;simp only[execOp,Sem.run_bind,aW,jn,this,Result.andThen_ok,Sem.run_pure];simp
     ·have hr:=dF (some ⟨b,o+off*bV,none⟩) len cap' l hh _ _ kk lk h1 Ay cL;by_cases hm:cap'=l
      ·have e1:hh=l:=Ay;subst e1;rw[if_pos hm]at hr;have e2:hh-hh=0:=Ay;have e3:cap'-hh=0:=Ay;rw[e2,e3]at hr;rw[e2]at hK;refine cf (o:=⟨dst,.slice t x iZ hi' none,type,pos,after,guard⟩) h ha hd (.jV id _ _ b (o+off*bV) (o,cap) eV g1 g2 Ay) hK ?_;simp only[execOp,Sem.run_bind,aW,jn,hr,Result.andThen_ok,Sem.run_pure]
      ·rw[if_neg hm]at hr;refine cf (o:=⟨dst,.slice t x iZ hi' none,type,pos,after,guard⟩) h ha hd (.ref id _ (off+l) (hh-l) b o cap (cap'-l) eV g1 g2 Ay Ay Ay) hK ?_;simp only[execOp,Sem.run_bind,aW,jn,hr,Result.andThen_ok,Sem.run_pure,g9,Addr.nm,<- aE];simp[eI,p6]
    split at hW
    ·rename_i e1 e2;have kk:lo=none:=by cases lo<;>simp at e1 ⊢
     have lk:hi=none:=by cases hi<;>simp at e2 ⊢
     subst kk;subst lk;exact key 0 len none none (.inl ⟨rfl,rfl⟩) (.inl ⟨rfl,rfl⟩) Ay (aM _) (by simpa using hW)
    ·rename_i k l e1 e2;have lk:hi=none:=by cases hi<;>simp at e2 ⊢
     subst lk;obtain⟨lo,rfl,f1⟩:∃y,lo=some y/\ev σ y=.lit (.int k l):=by cases lo<;>simp at e1 ⊢;exact e1
     obtain⟨⟨c1,c2,_⟩,hK⟩:=hW;have hl:=E lo;rw[f1]at hl;refine key l.toNat len (some lo) none (.inr ⟨k,?_⟩) (.inl ⟨rfl,rfl⟩) Ay (aM _) hK;simp[hl.bQ];omega
    ·rename_i k hh e1 e2;have kk:lo=none:=by cases lo<;>simp at e1 ⊢
     subst kk;obtain⟨hi,rfl,f2⟩:∃y,hi=some y/\ev σ y=.lit (.int k hh):=by cases hi<;>simp at e2 ⊢;exact e2
     obtain⟨⟨c1,c2⟩,hK⟩:=hW;have hl:=E hi;rw[f2]at hl;refine key 0 hh.toNat none (some hi) (.inl ⟨rfl,rfl⟩) (.inr ⟨k,?_⟩) Ay Ay (by simpa using hK);simp[hl.bQ];omega
    ·rename_i k l k' hh e1 e2;obtain⟨lo,rfl,f1⟩:∃y,lo=some y/\ev σ y=.lit (.int k l):=by cases lo<;>simp at e1 ⊢;exact e1
     obtain⟨hi,rfl,f2⟩:∃y,hi=some y/\ev σ y=.lit (.int k' hh):=by cases hi<;>simp at e2 ⊢;exact e2
     obtain⟨⟨c1,c2,c3⟩,hK⟩:=hW;have hl:=E lo;have yH:=E hi;rw[f1]at hl;rw[f2]at yH;refine key l.toNat hh.toNat (some lo) (some hi) (.inr ⟨k,?_⟩) (.inr ⟨k',?_⟩) Ay Ay hK
     ·simp[hl.bQ];omega
     ·simp[yH.bQ];omega
    ·exact hW.elim
   ·exact hW.elim
  ·rename_i sz rows he;rw[he]at hx;obtain⟨aE,hW⟩:=hW;have key:∀ (l hh:Nat) (iZ hi':Option Operand),(iZ.map a.eval=none/\l=0\/∃ k,iZ.map a.eval=some (.int k (l:Int)))->(hi'.map a.eval=none/\hh=rows.length\/∃ k,hi'.map a.eval=some (.int k (hh:Int)))->l<=hh->hh<=rows.length ->
     K (σ.put dst (.tree sz ((rows.drop l).take (hh-l))))->uP ⟨dst,.slice t x iZ hi' none,type,pos,after,guard⟩ σ γ a K ((execOp a.eval ⟨dst,.slice t x iZ hi' none,type,pos,after,guard⟩).run P γ.w):=by
    intro l hh iZ hi' kk lk h1 h2 hK;rcases hx.wu.inv with⟨ad,cap,rfl,aW⟩|⟨b,o,cap,f,aW,g1,g2,g3,g4,g5⟩
    ·have e1:hh=0:=by simpa using h2
     subst e1;have e2:l=0:=Ay;subst e2;have hr:=dF ad 0 cap 0 0 _ _ kk lk Ay Ay cL;refine cf (o:=⟨dst,.slice t x iZ hi' none,type,pos,after,guard⟩) h ha hd (v:=.tree sz (([].drop 0).take (0-0))) (cv:=.slice (if cap=0 then ad else ad.map (·.add (0*(ty P (ty P t).elem).size))) (0-0) (cap-0)) (.bO _ _ (.nil sz (cap-0) _)) hK ?_;simp only[execOp,Sem.run_bind,aW,jn,hr,Result.andThen_ok,Sem.run_pure]
    ·have hr:=dF (some ⟨b,o,none⟩) rows.length cap l hh _ _ kk lk h1 Ay cL;by_cases lW:hh-l=0
     ·have e:(rows.drop l).take (hh-l)=[]:=by rw[lW];simp
      rw[e]at hK;rw[lW]at hr;refine cf (o:=⟨dst,.slice t x iZ hi' none,type,pos,after,guard⟩) h ha hd (v:=.tree sz []) (cv:=.slice (if cap=l then some ⟨b,o,none⟩ else(some (⟨b,o,none⟩:Addr)).map (·.add (l*(ty P (ty P t).elem).size))) 0 (cap-l)) (.bO _ _ (.nil sz (cap-l) _)) hK ?_;simp only[execOp,Sem.run_bind,aW,jn,hr,Result.andThen_ok,Sem.run_pure]
     ·have bI:¬ cap=l:=Ay;rw[if_neg bI]at hr;have Ub:rows≠[]:=by intro e;subst e;simp at h2;omega
      refine cf (o:=⟨dst,.slice t x iZ hi' none,type,pos,after,guard⟩) h ha hd (.bO _ _ (eR.sub g1 g2 g4 g5 l (hh-l) (cap':=cap-l) Ay g3 Ay)) hK ?_;simp only[execOp,Sem.run_bind,aW,jn,hr,Result.andThen_ok,Sem.run_pure,g9,Addr.nm,<- aE Ub]
   split at hW
   ·rename_i e1 e2;have kk:lo=none:=by cases lo<;>simp at e1 ⊢
    have lk:hi=none:=by cases hi<;>simp at e2 ⊢
    subst kk;subst lk;exact key 0 rows.length none none (.inl ⟨rfl,rfl⟩) (.inl ⟨rfl,rfl⟩) Ay (aM _) (by simpa using hW)
   ·rename_i k l e1 e2;have lk:hi=none:=by cases hi<;>simp at e2 ⊢
    subst lk;obtain⟨lo,rfl,f1⟩:∃y,lo=some y/\ev σ y=.lit (.int k l):=by cases lo<;>simp at e1 ⊢;exact e1
    obtain⟨⟨c1,c2⟩,hK⟩:=hW;have hl:=E lo;rw[f1]at hl;refine key l.toNat rows.length (some lo) none (.inr ⟨k,?_⟩) (.inl ⟨rfl,rfl⟩) Ay (aM _) ?_
    ·simp[hl.bQ];omega
    ·have e:(rows.drop l.toNat).take (rows.length-l.toNat)=rows.drop l.toNat:=List.take_of_length_le Dg;rw[e];exact hK
   ·rename_i k hh e1 e2;have kk:lo=none:=by cases lo<;>simp at e1 ⊢
    subst kk;obtain⟨hi,rfl,f2⟩:∃y,hi=some y/\ev σ y=.lit (.int k hh):=by cases hi<;>simp at e2 ⊢;exact e2
    obtain⟨⟨c1,c2⟩,hK⟩:=hW;have hl:=E hi;rw[f2]at hl;refine key 0 hh.toNat none (some hi) (.inl ⟨rfl,rfl⟩) (.inr ⟨k,?_⟩) Ay Ay (by simpa using hK);simp[hl.bQ];omega
   ·rename_i k l k' hh e1 e2;obtain⟨lo,rfl,f1⟩:∃y,lo=some y/\ev σ y=.lit (.int k l):=by cases lo<;>simp at e1 ⊢;exact e1
    obtain⟨hi,rfl,f2⟩:∃y,hi=some y/\ev σ y=.lit (.int k' hh):=by cases hi<;>simp at e2 ⊢;exact e2
    obtain⟨⟨c1,c2,c3⟩,hK⟩:=hW;have hl:=E lo;have yH:=E hi;rw[f1]at hl;rw[f2]at yH;refine key l.toNat hh.toNat (some lo) (some hi) (.inr ⟨k,?_⟩) (.inr ⟨k',?_⟩) Ay Ay ?_
    ·simp[hl.bQ];omega
    ·simp[yH.bQ];omega
    ·rw[<- List.drop_take];exact hK
   ·exact hW.elim
  ·exact hW.elim
 case call c =>
  obtain⟨callee,args,argTypes⟩:=c;have jS:∀ l,args.toList=l->args=l.toArray:=by intro l h;rw[<- h]
  have Bz:∀ l,argTypes.toList=l->argTypes=l.toArray:=by intro l h;rw[<- h]
  cases callee with
  |value f=>exact hW.elim
  |invoke r m=>exact hW.elim
  |builtin b =>
   cases b
   case len =>
    simp only at hW;split at hW
    ·rename_i x t cd fv;have ea:=jS _ cd;have et:=Bz _ fv;subst ea;subst et;have hx:=E x;have dF:(ty P t).kind=1->∀ ad n c,a.eval x=.slice ad n c->(execOp a.eval ⟨dst,.call ⟨.builtin .len,[x].toArray,[t].toArray⟩,type,pos,after,guard⟩).run P γ.w=.ok (.value (.int .i64 (n:Int))) γ.w:=by
      intro hk ad n c hc;have ht:=oe hk;simp[execOp,resolve,invoke,builtin,Builtin.len_,run_underlying ht,hc,goInt]
     split at hW
     ·rename_i id sz off len he;rw[he]at hx;obtain⟨hk,hW⟩:=hW;split at hW
      ·rename_i bV rows ho;rcases hx.Ek with hg|⟨_,_,_,rfl,aW⟩|⟨rfl,_,_,_,_,_,_,_,aW⟩|⟨b,o,cap,cap',eV,g1,g2,g3,g4,g5,aW⟩
       ·rw[ho]at hg;simp at hg
       ·exact cf h ha hd (.lit _) hW.2 (dF hk _ _ _ aW)
       ·exact cf h ha hd (.lit _) hW.2 (dF hk _ _ _ aW)
       ·exact cf h ha hd (.lit _) hW.2 (dF hk _ _ _ aW)
      ·exact hW.elim
     ·rename_i sz rows he;rw[he]at hx;rcases hx.wu.inv with⟨ad,cap,rfl,aW⟩|⟨b,o,cap,f,aW,_⟩
      ·exact cf h ha hd (.lit _) hW.2 (dF hW.1 _ _ _ aW)
      ·exact cf h ha hd (.lit _) hW.2 (dF hW.1 _ _ _ aW)
     ·rename_i he;rw[he]at hx;exact cf h ha hd (.lit _) hW.2 (dF hW.1 _ _ _ hx.bQ)
     ·rename_i id he;obtain⟨hk,hW⟩:=hW;split at hW
      ·rename_i ag L ho;obtain⟨kt,ht⟩:=Eo hk;rw[he]at hx;obtain⟨_,_,b,f,hb,aW,ic,_⟩:=yC h hx (id:=id) (ag:=ag) (L:=L) (by simp[jo,ho]);refine cf h ha hd (.lit _) hW ?_;simp[execOp,resolve,invoke,builtin,Builtin.len_,run_underlying ht,aW,goInt,MapKept.run_getObj_map ic,eN,uQ]
      ·exact hW.elim
     ·exact hW.elim
    ·exact hW.elim
   case append =>
    simp only at hW;split at hW
    ·rename_i s x t t' cd fv;have ea:=jS _ cd;have et:=Bz _ fv;subst ea;subst et;split at hW
     ·rename_i z pre σ1 sz src hk hz yA pf;obtain⟨⟨rfl,cL,aE,h0,iY,hlen,yF,ry⟩,hK⟩:=hW;have Uc:m9 σ sz (ev σ s)=some (pre,σ1):=by rw[aE];exact yA
      obtain⟨lK,γ1,h1,h2,h3,h4,h5⟩:=Ud (P:=P) (oty:=type) h hk cL hz aE h0 iY (E s) (E x) Uc pf hlen yF ry;refine wz (γ1:=γ1) h4 h3 (by rw[h2];exact ha) hd h5 hK ?_;simp[execOp,resolve,invoke,builtin,h1]
     ·exact hW.elim
    ·exact hW.elim
   case min =>
    simp only at hW;split at hW
    ·rename_i x y cd;have ea:=jS _ cd;subst ea;have hx:=E x;have hy:=E y;split at hW
     ·rename_i k p k' q he hf;rw[he]at hx;rw[hf]at hy;obtain⟨rfl,hK⟩:=hW;refine cf h ha hd (.lit _) hK ?_;have e:(if q<p then q else p)=min p q:=by simp only[Int.min_def];split<;>split<;>omega
      simp[execOp,resolve,invoke,builtin,Builtin.min_,Builtin.min2,hx.bQ,hy.bQ,e]
     ·exact hW.elim
    ·exact hW.elim
   case max =>
    simp only at hW;split at hW
    ·rename_i x y cd;have ea:=jS _ cd;subst ea;have hx:=E x;have hy:=E y;split at hW
     ·rename_i k p k' q he hf;rw[he]at hx;rw[hf]at hy;obtain⟨rfl,hK⟩:=hW;refine cf h ha hd (.lit _) hK ?_;have e:(if q > p then q else p)=max p q:=by simp only[Int.max_def];split<;>split<;>omega
      simp[execOp,resolve,invoke,builtin,Builtin.max_,Builtin.max2,hx.bQ,hy.bQ,e]
     ·exact hW.elim
    ·exact hW.elim
   case copy =>
    simp only at hW;split at hW
    ·rename_i s x t t' cd fv;have ea:=jS _ cd;have et:=Bz _ fv;subst ea;subst et;have hs:=E s;split at hW
     ·rename_i id sz off len bV src he pf;rw[he]at hs;split at hW
      ·rename_i iI rows ho;obtain⟨⟨hk,cL,rfl,rfl,aE,h0,ry⟩,hK⟩:=hW;obtain⟨w',h1,h2,h3⟩:=Ue (P:=P) (t':=t') (oty:=type) h hk cL aE h0 hs (E x) ho pf ry;refine wz (γ1:={ γ with w:=w' }) h3 h2 ha hd (.lit _) hK ?_;simp[execOp,resolve,invoke,builtin,h1]
      ·exact hW.elim
     ·exact hW.elim
    ·exact hW.elim
   case clear =>
    simp only at hW;split at hW
    ·rename_i s t cd fv;have ea:=jS _ cd;have et:=Bz _ fv;subst ea;subst et;have hs:=E s;split at hW
     ·rename_i id sz off len z he hz;rw[he]at hs;split at hW
      ·rename_i bV rows ho;obtain⟨⟨hk,cL,rfl,iY,h0,rz⟩,hK⟩:=hW;obtain⟨w',h1,h2,h3⟩:=Uf (P:=P) (oty:=type) h hk cL iY h0 hz rz hs ho;refine wz (γ1:={ γ with w:=w' }) h3 h2 ha hd (.lit _) hK ?_;simp[execOp,resolve,invoke,builtin,h1]
      ·exact hW.elim
     ·exact hW.elim
    ·exact hW.elim
   all_goals exact hW.elim
 case convert s d x =>
  simp only at hW;have hx:=E x;split at hW
  ·rename_i k k' n lG he;rw[he]at hx;obtain⟨hu,hK⟩:=hW;obtain⟨u,hu⟩:=Option.isSome_iff_exists.1 hu;refine cf h ha hd (.lit _) hK ?_;simp[execOp,convert,run_underlying hu,run_underlying lG,hx.bQ,Conv.intToInt]
  ·exact hW.elim
 all_goals exact hW.elim
end Go.Am

