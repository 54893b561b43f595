import Derived.Test.YtodilglobhifaaaGreatDoorX02
import Derived.MapKept
import Derived.Laws.StructEq
set_option linter.all false
set_option maxHeartbeats 0
set_option maxRecDepth 20000
open List renaming getElem?_take→pS,getElem?_drop→kE,getElem?_set→bT,getElem?_eq_some_iff→aN,ext_getElem→JD,length_append→aK,length_singleton→nq,mem_append→bE,mem_singleton→bK,getElem?_append_left→cG,getElem?_append_right→dy,getElem?_cons_zero→qV,ext_getElem?→pR,length_set→bm,mem_or_eq_of_mem_set→ue,getElem?_eq_getElem→aT,getD_eq_getElem?_getD→ax,getElem?_concat_length→BA,getElem?_map→cm,replicate→aD,range→bp,range_succ→sF,flatMap_append→sG
open Nat renaming add_mul→eB,le_refl→aM,sub_self→lU,ne_of_lt→j6,lt_or_ge→dr,sub_zero→nr,zero_add→gw,add_assoc→qZ
open Option renaming some→cL,map_some→fN,map_none→jf,getD_some→dE,bind_some→n5
open Array renaming range→EX,getElem?_eq_some_iff→lT,getElem?_setIfInBounds_ne→sE,getElem?_toList→w7,getD_eq_getD_getElem?→dJ
namespace Go.Am
def XU{P:Program}(w:World)(t e:TypeId)(a:Option Addr)(n c:Nat)(ht:P.underlying t=some (.slice e)):
  (binOp .eql t (.slice a n c) (.slice none 0 0)).run P w=.ok (.bool a.isNone) w:=by
 have h:∀ d:Nat,(Op.equalIn (d+1) t (.slice a n c) (.slice none 0 0)).run P w=.ok a.isNone w:=λd=>by
  cases a<;>simp[Op.equalIn,run_underlying ht]
 simp only[binOp];simp[Op.equal,Op.maxDepth,h 9999]
def XV{P:Program}(w:World)(t e:TypeId)(a:Option Addr)(n c:Nat)(ht:P.underlying t=some (.slice e)):
  (binOp .neq t (.slice a n c) (.slice none 0 0)).run P w=.ok (.bool (!a.isNone)) w:=by
 have h:∀ d:Nat,(Op.equalIn (d+1) t (.slice a n c) (.slice none 0 0)).run P w=.ok a.isNone w:=λd=>by
  cases a<;>simp[Op.equalIn,run_underlying ht]
 simp only[binOp];simp[Op.equal,Op.maxDepth,h 9999]
variable {P:Program}
def Pv(w:World)(t:TypeId){e:TypeId}(a:Addr)(n c:Nat)(ht:P.underlying t=some (.slice e)):
  (binOp .eql t (.slice (some a) n c) (.slice none 0 0)).run P w=.ok (.bool false) w:=by
 have h:∀ d:Nat,(Op.equalIn (d+1) t (.slice (some a) n c) (.slice none 0 0)).run P w=.ok false w:=λd=>by
  simp[Op.equalIn,run_underlying ht]
 simp only[binOp];simp[Op.equal,Op.maxDepth,h 9999]
def XW(w:World)(t:TypeId){e:TypeId}(a:Addr)(n c:Nat)(ht:P.underlying t=some (.slice e)):
  (binOp .neq t (.slice (some a) n c) (.slice none 0 0)).run P w=.ok (.bool true) w:=by
 have h:∀ d:Nat,(Op.equalIn (d+1) t (.slice (some a) n c) (.slice none 0 0)).run P w=.ok false w:=λd=>by
  simp[Op.equalIn,run_underlying ht]
 simp only[binOp];simp[Op.equal,Op.maxDepth,h 9999]
def au.Gl{os:List Ob}{w:World}{Z:Nat->Prop}{blk:fi}{id r c:Nat}{cv:Value}(h:au os w Z blk (.ptr id r c) cv):
  os[id]?=some .gone\/(∃ b cap cells,os[id]?=some (.var cells)/\blk id=some (b,0,cap)/\r=0/\cv=.pointer (some ⟨b,c,none⟩)) \/
  (∃ sz b o cap rows,os[id]?=some (.arr sz rows)/\blk id=some (b,o,cap)/\cv=.pointer (some ⟨b,o+(r*sz+c),none⟩)):=by
 cases h with
 |bV _ _ h=>cases h
 |kQ _ _ _ _ h=>exact .inl h
 |lv _ _ b cap cells h hb=>exact .inr (.inl ⟨b,cap,cells,h,hb,rfl,rfl⟩)
 |ma _ _ _ sz b o cap rows h hb=>exact .inr (.inr ⟨sz,b,o,cap,rows,h,hb,rfl⟩)
def au.Gm{os:List Ob}{w:World}{Z:Nat->Prop}{blk:fi}{cells:List AV}{cv:Value}(h:au os w Z blk (.bU cells) cv):
  ∃ b o,∃ f:Nat->Value,cv=.pointer (some ⟨b,o,none⟩)/\Z b/\(∀ j x,cells[j]?=some x->w.cell? ⟨b,o+j,none⟩=some (f j))/\∀ j x,cells[j]?=some x->fK w Z x (f j):=by
 cases h with
 |bV _ _ h=>cases h
 |bU _ b o f h1 h2 h3=>exact⟨b,o,f,rfl,h1,h2,h3⟩
def au.Gn{os:List Ob}{w:World}{Z:Nat->Prop}{blk:fi}{id sz off len:Nat}{cv:Value}(h:au os w Z blk (.ref id sz off len) cv):
  os[id]?=some .gone\/(os[id]?=some (.arr sz [])/\blk id=none/\off=0/\len=0/\cv=.slice none 0 0) \/
  (len=0/\∃ b x bo rows,os[id]?=some (.arr sz rows)/\blk id=some (b,bo)/\off<=rows.length/\cv=.slice (some ⟨b,x,none⟩) 0 0) \/
  (∃ b o cap cap' rows,os[id]?=some (.arr sz rows)/\blk id=some (b,o,cap)/\off+len<=rows.length/\off+cap'<=cap/\len<=cap'/\cv=.slice (some ⟨b,o+off*sz,none⟩) len cap'):=by
 cases h with
 |bV _ _ h=>cases h
 |iY _ _ _ _ _ h=>exact .inl h
 |jU _ _ h hb=>exact .inr (.inl ⟨h,hb,rfl,rfl,rfl⟩)
 |kn _ _ _ b x bo rows h hb hl=>exact .inr (.inr (.inl ⟨rfl,b,x,bo,rows,h,hb,hl,rfl⟩))
 |ref _ _ _ _ b o cap cap' rows h hb hl hc eK=>exact .inr (.inr (.inr ⟨b,o,cap,cap',rows,h,hb,hl,hc,eK,rfl⟩))
def au.Pf{os:List Ob}{w:World}{Z:Nat->Prop}{blk:fi}{cs:List AV}{cv:Value}(h:au os w Z blk (.agg cs) cv):
  ∃ aR,cv=.agg aR/\aR.size=cs.length/\∀ j x,cs[j]?=some x->au os w Z blk x (aR.getD j Go.undef):=by
 cases h with
 |bV _ _ h=>cases h
 |agg _ aR h1 h2=>exact⟨aR,rfl,h1,h2⟩
def au.Pg{os:List Ob}{w:World}{Z:Nat->Prop}{blk:fi}{cs:List AV}{cv:Value}(h:au os w Z blk (.bH cs) cv):
  ∃ aR,cv=.tuple aR/\aR.size=cs.length/\∀ j x,cs[j]?=some x->au os w Z blk x (aR.getD j Go.undef):=by
 cases h with
 |bV _ _ h=>cases h
 |bH _ aR h1 h2=>exact⟨aR,rfl,h1,h2⟩
def au.FM{os:List Ob}{w:World}{Z:Nat->Prop}{blk:fi}{f:FuncId}{cs:List AV}{cv:Value}(h:au os w Z blk (.fn f cs) cv):
  ∃ aR,cv=.func (.func f) #[] aR/\aR.size=cs.length/\∀ j x,cs[j]?=some x->au os w Z blk x (aR.getD j Go.undef):=by
 cases h with
 |bV _ _ h=>cases h
 |fn _ _ aR h1 h2=>exact⟨aR,rfl,h1,h2⟩
def au.Pt{os:List Ob}{w:World}{Z:Nat->Prop}{blk:fi}{t:TypeId}{v:AV}{cv:Value}(h:au os w Z blk (.fI t v) cv):∃x,cv=.iface t x/\au os w Z blk v x:=by
 cases h with
 |bV _ _ h=>cases h
 |fI _ _ x h=>exact⟨x,rfl,h⟩
def fK.inv{w:World}{Z:Nat->Prop}{sz:Nat}{rows:List (List AV)}{cv:Value}(h:fK w Z (.tree sz rows) cv):
  (∃ a cap,rows=[]/\cv=.slice a 0 cap)\/∃ b o cap,∃ f:Nat->Nat->Value,cv=.slice (some ⟨b,o,none⟩) rows.length cap/\Z b/\(∀ row∈rows,row.length=sz)/\rows.length<=cap /\
   (∀ r c x,cellAt rows r c=some x->w.cell? ⟨b,o+(r*sz+c),none⟩=some (f r c))/\∀ r c x,cellAt rows r c=some x->fK w Z x (f r c):=by
 cases h with
 |nil _ cap a=>exact .inl ⟨a,cap,rfl,rfl⟩
 |tree _ _ b o cap f h1 h2 h3 h4 h5=>exact .inr ⟨b,o,cap,f,rfl,h1,h2,h3,h4,h5⟩
def fK.sub{w:World}{Z:Nat->Prop}{sz:Nat}{rows:List (List AV)}{b o cap cap':Nat}{f:Nat->Nat->Value}(hz:Z b)(hr:∀ row∈rows,row.length=sz)(hc:∀ r c x,cellAt rows r c=some x->w.cell? ⟨b,o+(r*sz+c),none⟩=some (f r c))(ht:∀ r c x,cellAt rows r c=some x->fK w Z x (f r c))(lo n:Nat)(hn:n<=cap')(_hcap:rows.length<=cap)(iV:lo+n<=rows.length):
  fK w Z (.tree sz ((rows.drop lo).take n)) (.slice (some ⟨b,o+lo*sz,none⟩) n cap'):=by
 have hlen:((rows.drop lo).take n).length=n:=aak;have rG:∀ r c x,cellAt ((rows.drop lo).take n) r c=some x->cellAt rows (lo+r) c=some x:=by
  intro r c x hx;simp only[cellAt,pS,kE]at hx;split at hx
  ·exact hx
  ·simp at hx
 have:=fK.tree (w:=w) (Z:=Z) sz ((rows.drop lo).take n) b (o+lo*sz) cap' (λr c=>f (lo+r) c) hz (λrow h=>hr row (List.mem_of_mem_drop (List.mem_of_mem_take h))) Bv
  (λr c x hx=>by
   have h1:=hc _ _ _ (rG r c x hx);rw[eB]at h1;have e:o+(lo*sz+r*sz+c)=o+lo*sz+(r*sz+c):=Bv;rw[e]at h1;exact h1) (λr c x hx=>ht _ _ _ (rG r c x hx))
 rw[hlen]at this;exact this
def CP{o:Oper}{σ:St}{γ:Cx}{a:Act}{K:St->Prop}(h:ba σ γ)(ha:γ.tmps=a.tmps)(hd:∀ d,o.dst=some d->d<a.tmps.size){ob:Ob}{cur:Array Value}{t:TypeId}{cap:Nat}(a9:qq σ.aa γ.w γ.Z γ.blk 0 cap cur ob){v:AV}{cv:Value}(hv:au (σ.aa++[ob]) (γ.w.alloc (.cells cur t)) γ.Z (cB γ.blk σ.aa.length (some (γ.w.heap.size,0,cap))) v cv)(hK:K (({ σ with aa:=σ.aa++[ob] }:St).put o.dst v)){r:Result Next}(hr:r=.ok (.value cv) (γ.w.alloc (.cells cur t))):vO o σ γ a K r :=
 xG (σ1:={ σ with aa:=σ.aa++[ob] }) (γ1:={ γ with w:=γ.w.alloc (.cells cur t),blk:=cB γ.blk σ.aa.length (some (γ.w.heap.size,0,cap)) })
  (Fr.push (t:=t) (cur:=cur) ob rfl rfl rfl rfl) (h.push (t:=t) (cur:=cur) rfl a9) ha hd hv hK hr
def nL(ents:List (Value×Value)):(cE ents).toList=ents.mapIdx λi p=>(⟨p.1,p.2,i⟩:MapEntry):=by simp[cE]
def Gp(L:List (Value×Value))(p:Value×Value):(cE L).push ⟨p.1,p.2,L.length⟩=cE (L++[p]):=by
 apply Array.toList_inj.1;rw[Array.toList_push,nL,nL,List.mapIdx_append];simp
def CR(L:List (Value×Value))(i:Nat)(f:MapEntry->MapEntry)(p:Value×Value)(hf:∀ q,L[i]?=some q->f ⟨q.1,q.2,i⟩=⟨p.1,p.2,i⟩):(cE L).modify i f=cE (L.set i p):=by
 apply Array.ext_getElem?;intro j;rw[Array.getElem?_modify];simp only[cE,List.getElem?_toArray,List.getElem?_mapIdx,bT];by_cases h:i=j
 ·subst h;rw[if_pos rfl,if_pos rfl];cases hq:L[i]? with
  |none =>
   have:¬ i<L.length:=by
    have:=List.getElem?_eq_none_iff.1 hq;omega
   simp[this]
  |some q =>
   have:i<L.length:=(aN.1 hq).1;simp[this,hf q hq]
 ·rw[if_neg h,if_neg h]
def vP(ag:Nat)(f:Nat->Value)(L:List (List Int×AV)):(cP ag f L).length=L.length:=by unfold cP;simp
def qt(ag:Nat)(f:Nat->Value)(L:List (List Int×AV))(j:Nat):(cP ag f L)[j]?=(L[j]?).map λp=>(kV ag p.1,f j):=by unfold cP;simp
def s5{l:List Int}:∀ {L:List (List Int×AV)} {i j:Nat},dV l L i=some j->i<=j/\∃ v,L[j-i]?=some (l,v)
 |[],_,_,h=>by cases h
 |p::r,i,j,h=>by
  rw[dV]at h;split at h
  ·rename_i hp;cases h;exact⟨aM _,p.2,by rw[lU];simp[<- hp]⟩
  ·obtain⟨h1,v,h2⟩:=s5 h;have e:j-i=(j-(i+1))+1:=Bv;exact⟨Bv,v,by rw[e,List.getElem?_cons_succ];exact h2⟩
def zN{σ:St}{γ:Cx}(h:ba σ γ){v:AV}{cv:Value}(hv:au σ.aa γ.w γ.Z γ.blk v cv){id ag:Nat}{L:List (List Int×AV)}(hm:jQ σ v=some (id,ag,L)):
  v=.dP id/\σ.aa[id]?=some (.mp ag L)/\∃ b,∃ f:Nat->Value,γ.blk id=some (b,0,0)/\cv=.map (some b)/\γ.w.heap[b]?=some (.map (cE (cP ag f L)) L.length)/\(∀ p∈L,p.1.length=g9 ag)/\∀ (j:Nat) p,L[j]?=some p->au σ.aa γ.w γ.Z γ.blk p.2 (f j):=by
 unfold jQ at hm;split at hm
 ·rename_i uC;split at hm
  ·rename_i gA L' ho;simp only[cL.injEq,Prod.mk.injEq]at hm;obtain⟨rfl,rfl,rfl⟩:=hm;obtain⟨b,f,h1,h2,h3,h4⟩:=h.dQ _ _ ho;cases hv with
   |bV _ _ h=>cases h
   |oh _ _ h' _=>rw[ho]at h';simp at h'
   |dP _ b' _ _ h' hb =>
    rw[h1]at hb;simp only[cL.injEq,Prod.mk.injEq,and_true]at hb;subst hb;exact⟨rfl,ho,b,f,h1,rfl,h2,h3,h4⟩
  ·cases hm
 ·cases hm
def Gq{os:List Ob}{w:World}{Z:Nat->Prop}{blk:fi}{v:AV}{cv:Value}(hv:au os w Z blk v cv){ag:Nat}{l:List Int}(hk:keyOf v=some (ag,l))(hl:l.length=g9 ag):cv=kV ag l:=by
 unfold keyOf at hk;split at hk
 ·simp only[cL.injEq,Prod.mk.injEq]at hk;obtain⟨rfl,rfl⟩:=hk;rw[hv.bX];rfl
 ·rename_i cs;cases hi:mQ cs with
  |none=>simp[hi]at hk
  |some as =>
   simp only[hi,fN,cL.injEq,Prod.mk.injEq]at hk;obtain⟨rfl,rfl⟩:=hk;have:=Gr hv hi;rw[this];unfold g9 at hl;unfold kV;by_cases h0:as.length=0
   ·rw[if_pos h0]at hl;omega
   ·rw[if_neg h0]
 ·cases hk
def XX{t:TypeId}{ag:Nat}(qu:g8 P t ag){z:Value}{w:World}(hz:∀ kt et,P.underlying t=some (.map kt et)->(zeroValue et).run P w=.ok z w){b:Nat}{f:Nat->Value}{L:List (List Int×AV)}(hb:w.heap[b]?=some (.map (cE (cP ag f L)) L.length))(hL:∀ p∈L,p.1.length=g9 ag){l:List Int}(hl:l.length=g9 ag):
  (Instr.lookup t (.map (some b)) (kV ag l) false).run P w=.ok (((dV l L 0).map f).getD z) w:=by
 obtain⟨kt,et,ht,hk⟩:=qu;obtain⟨h1,h2,h3⟩:=hk l hl;simp only[Instr.lookup,Sem.run_bind,run_underlying ht,MapKept.run_getObj_map hb,h1,h3 f L w hL,Result.andThen_ok,Sem.run_pure];cases h:dV l L 0 with
 |none=>simp[hz kt et ht]
 |some q=>simp
def XZ{t:TypeId}{ag:Nat}(qu:g8 P t ag){w:World}{b:Nat}{f:Nat->Value}{L:List (List Int×AV)}(hb:w.heap[b]?=some (.map (cE (cP ag f L)) L.length))(hL:∀ p∈L,p.1.length=g9 ag){l:List Int}(hl:l.length=g9 ag)(v:AV)(cv:Value):
  ∃ f':Nat->Value,(Instr.mapUpdate t (.map (some b)) (kV ag l) cv).run P w=.ok () { w with heap:=w.heap.setIfInBounds b (.map (cE (cP ag f' (cS l v L))) (cS l v L).length) } /\
   (∀ p∈cS l v L,p.1.length=g9 ag)/\∀ (j:Nat) p,(cS l v L)[j]?=some p->(p.2=v/\f' j=cv)\/(L[j]?=some p/\f' j=f j):=by
 obtain⟨kt,et,ht,hk⟩:=qu;obtain⟨h1,h2,h3⟩:=hk l hl;simp only[Instr.mapUpdate,Sem.run_bind,run_underlying ht,MapKept.run_getObj_map hb,h1,h3 f L w hL,Result.andThen_ok];unfold cS;cases h:dV l L 0 with
 |none =>
  refine⟨λj=>if j=L.length then cv else f j,?_,λp hp=>?_,λj p hp=>?_⟩
  ·have e:=Gp (cP ag f L) (kV ag l,cv);rw[vP]at e;have e2:cP ag f L++[(kV ag l,cv)]=cP ag (λj=>if j=L.length then cv else f j) (L++[(l,v)]):=by
    unfold cP;rw[List.mapIdx_append];congr 1
    ·apply JD
     ·simp
     ·intro j h5 h6;have:j<L.length:=by simpa using h5
      simp[j6 this]
    ·simp
   simp only[jf,MapKept.run_setObj_map _ hb,e,e2,aK,nq]
  ·rcases bE.1 hp with hp|hp
   ·exact hL p hp
   ·rw[bK.1 hp];exact hl
  ·rcases dr j L.length with hj|hj
   ·rw[cG hj]at hp;exact .inr ⟨hp,by dsimp only;rw[if_neg Bv]⟩
   ·rw[dy hj]at hp;have:j=L.length:=by
     have:=(aN.1 hp).1;simp at this;omega
    subst this;simp only[lU,qV,cL.injEq]at hp;subst hp;exact .inl ⟨rfl,by dsimp only;rw[if_pos rfl]⟩
 |some q =>
  obtain⟨_,u,hu⟩:=s5 h;rw[nr]at hu;have hq:=(aN.1 hu).1;refine⟨λj=>if j=q then cv else f j,?_,λp hp=>?_,λj p hp=>?_⟩
  ·have uE:(((cE (cP ag f L))[q]?).map (·.key)).getD (kV ag l)=kV ag l:=by
    simp[cE,qt,hu]
   have e:=CR (cP ag f L) q (λe=>{ e with key:=kV ag l,val:=cv }) (kV ag l,cv) (λ_ _=>rfl);have e2:(cP ag f L).set q (kV ag l,cv)=cP ag (λj=>if j=q then cv else f j) (L.set q (l,v)):=by
    apply pR;intro j;rw[bT,qt,qt,bT,vP];by_cases hj:q=j
    ·subst hj;simp[hq]
    ·rw[if_neg hj,if_neg hj,if_neg (Ne.symm hj)]
   simp only[fN,uE,h2,Result.andThen_ok,MapKept.run_setObj_map _ hb,Sem.run_bind];rw[e,e2,bm]
  ·rcases ue hp with hp|hp
   ·exact hL p hp
   ·rw[hp];exact hl
  ·simp only[bT]at hp;by_cases hj:q=j
   ·subst hj;rw[if_pos rfl,if_pos hq]at hp;cases hp;exact .inl ⟨rfl,by dsimp only;rw[if_pos rfl]⟩
   ·rw[if_neg hj]at hp;exact .inr ⟨hp,by dsimp only;rw[if_neg (Ne.symm hj)]⟩
def ba.X1{σ:St}{γ:Cx}(h:ba σ γ){id:Nat}{ob ob':Ob}(ho:σ.aa[id]?=some ob)(hg:ob≠.gone)(jC:ob.dj ob'){b o cap:Nat}(hb:γ.blk id=some (b,o,cap)){w':World}(mf:∀ k,k≠b->w'.heap[k]?=γ.w.heap[k]?):∀ v cv,au σ.aa γ.w γ.Z γ.blk v cv->au (σ.aa.set id ob') w' γ.Z γ.blk v cv:=by
 have cO:id<σ.aa.length:=(aN.1 ho).1;have kq:Live σ.aa id:=⟨ob,ho,hg⟩;exact λv cv hv =>
  hv.mono (λz hz=>⟨hz,mf z (λe=>h.nz b ⟨id,o,cap,kq,hb⟩ (e▸hz))⟩) (λi x hx=>by
   rw[bT];by_cases kS:id=i
   ·subst kS;rw[ho]at hx;simp at hx;subst hx;right;refine⟨rfl,ob',by simp[cO],jC⟩
   ·rw[if_neg kS];by_cases bS:x=.gone
    ·subst bS;exact .inl hx
    ·exact .inr ⟨rfl,x,hx,Ob.iC bS⟩)
def X6{t:TypeId}{ag:Nat}(qu:g8 P t ag){z:Value}{w:World}(hz:∀ kt et,P.underlying t=some (.map kt et)->(zeroValue et).run P w=.ok z w){b:Nat}{f:Nat->Value}{L:List (List Int×AV)}(hb:w.heap[b]?=some (.map (cE (cP ag f L)) L.length))(hL:∀ p∈L,p.1.length=g9 ag){l:List Int}(hl:l.length=g9 ag):
  ∃ f':Nat->Value,(Instr.mapEntry t (.map (some b)) (kV ag l)).run P w=.ok (.tuple #[((dV l L 0).map f).getD z,.int .i64 (rA l L:Nat)]) { w with heap:=w.heap.setIfInBounds b (.map (cE (cP ag f' (cS l ((kP l L).getD (.lit z)) L))) (cS l ((kP l L).getD (.lit z)) L).length) } /\
   (∀ p∈cS l ((kP l L).getD (.lit z)) L,p.1.length=g9 ag)/\∀ (j:Nat) p,(cS l ((kP l L).getD (.lit z)) L)[j]?=some p->(p.2=(kP l L).getD (.lit z)/\f' j=((dV l L 0).map f).getD z)\/(L[j]?=some p/\f' j=f j):=by
 obtain⟨kt,et,ht,hk⟩:=qu;obtain⟨h1,h2,h3⟩:=hk l hl;generalize hv:(kP l L).getD (.lit z)=v;simp only[Instr.mapEntry,Sem.run_bind,run_underlying ht,MapKept.run_getObj_map hb,h1,h3 f L w hL,Result.andThen_ok];unfold cS rA;cases h:dV l L 0 with
 |none =>
  refine⟨λj=>if j=L.length then z else f j,?_,λp hp=>?_,λj p hp=>?_⟩
  ·have e:=Gp (cP ag f L) (kV ag l,z);rw[vP]at e;have e2:cP ag f L++[(kV ag l,z)]=cP ag (λj=>if j=L.length then z else f j) (L++[(l,v)]):=by
    unfold cP;rw[List.mapIdx_append];congr 1
    ·apply JD
     ·simp
     ·intro j h5 h6;have:j<L.length:=by simpa using h5
      simp[j6 this]
    ·simp
   simp only[jf,hz kt et ht,Result.andThen_ok,MapKept.run_setObj_map _ hb,Sem.run_bind,e,e2,aK,nq,Sem.run_pure,Option.getD_none,goInt]
  ·rcases bE.1 hp with hp|hp
   ·exact hL p hp
   ·rw[bK.1 hp];exact hl
  ·rcases dr j L.length with hj|hj
   ·rw[cG hj]at hp;exact .inr ⟨hp,by dsimp only;rw[if_neg Bv]⟩
   ·rw[dy hj]at hp;have:j=L.length:=by
     have:=(aN.1 hp).1;simp at this;omega
    subst this;simp only[lU,qV,cL.injEq]at hp;subst hp;exact .inl ⟨rfl,by dsimp only;rw[if_pos rfl];rfl⟩
 |some q =>
  obtain⟨_,u,hu⟩:=s5 h;rw[nr]at hu;have hq:=(aN.1 hu).1;refine⟨f,?_,λp hp=>?_,λj p hp=>?_⟩
  ·have uE:(((cE (cP ag f L))[q]?).map (·.key)).getD (kV ag l)=kV ag l:=by
    simp[cE,qt,hu]
   have X7:(((cE (cP ag f L))[q]?).map (λe=>(e.born:Int))).getD 0=(q:Int):=by
    simp[cE,qt,hu]
   have e:=CR (cP ag f L) q (λe=>{ e with key:=kV ag l }) (kV ag l,f q) (λx hx=>by
    rw[qt,hu]at hx;cases hx;rfl)
   have e2:(cP ag f L).set q (kV ag l,f q)=cP ag f (L.set q (l,v)):=by
    apply pR;intro j;rw[bT,qt,qt,bT,vP];by_cases hj:q=j
    ·subst hj;simp[hq]
    ·rw[if_neg hj,if_neg hj]
   simp only[fN,uE,h2,Result.andThen_ok,MapKept.run_setObj_map _ hb,Sem.run_bind,Sem.run_pure,X7,dE,goInt];rw[e,e2,bm]
  ·rcases ue hp with hp|hp
   ·exact hL p hp
   ·rw[hp];exact hl
  ·simp only[bT]at hp;by_cases hj:q=j
   ·subst hj;rw[if_pos rfl,if_pos hq]at hp;cases hp;exact .inl ⟨rfl,rfl⟩
   ·rw[if_neg hj]at hp;exact .inr ⟨hp,rfl⟩
def X8(ents:List (Value×Value)){n:Nat}(hn:n<ents.length):(cE ents).findIdx? (λe=>(e.born:Int)==(n:Int))=some n:=by
 unfold cE;rw[List.findIdx?_toArray,List.findIdx?_eq_some_iff_getElem];refine⟨by simpa using hn,Jy,λj hj=>?_⟩;simp only[List.getElem_mapIdx];simp;omega
def X9{t:TypeId}{ag:Nat}{w:World}{b:Nat}{f:Nat->Value}{L:List (List Int×AV)}(hb:w.heap[b]?=some (.map (cE (cP ag f L)) L.length)){n:Nat}(hn:n<L.length)(v:AV)(cv:Value):
  (Instr.entryStore t (.map (some b)) (.int .i64 (n:Nat)) cv).run P w=.ok () { w with heap:=w.heap.setIfInBounds b (.map (cE (cP ag (λj=>if j=n then cv else f j) (l8 n v L))) (l8 n v L).length) }:=by
 have hf:=X8 (cP ag f L) (n:=n) (by rw[vP];exact hn);have e:=CR (cP ag f L) n (λe=>{ e with val:=cv }) (kV ag (L.getD n ([],.undef)).1,cv) (λx hx=>by
  rw[qt,aT hn]at hx;cases hx;rw[ax,aT hn];rfl)
 have e2:(cP ag f L).set n (kV ag (L.getD n ([],.undef)).1,cv)=cP ag (λj=>if j=n then cv else f j) (l8 n v L):=by
  unfold l8;apply pR;intro j;rw[bT,qt,qt,bT,vP];by_cases hj:n=j
  ·subst hj;simp[hn]
  ·rw[if_neg hj,if_neg hj,if_neg (Ne.symm hj)]
 simp only[Instr.entryStore,Sem.run_bind,MapKept.run_getObj_map hb,asInt,asIntOf,Sem.run_pure,Result.andThen_ok,hf,MapKept.run_setObj_map _ hb];rw[e,e2];simp[l8]
def Gs{P:Program}{t:TypeId}(h:(ty P t).kind=8):∃kt,P.underlying t=some (.map kt (ty P t).elem):=by
 unfold ty at h ⊢;cases hi:P.info? t<;>cases hd:P.underlying t<;>simp[hi,hd]at h ⊢;rename_i i d;cases d<;>simp at h ⊢
def XI{o:Oper}{σ:St}{K:St->Prop}(hW:bM P o σ K){γ:Cx}(h:ba σ γ){a:Act}(ha:γ.tmps=a.tmps)(hd:∀ d,o.dst=some d->d<a.tmps.size):
  vO o σ γ a K ((execOp a.eval o).run P γ.w):=by
 obtain⟨dst,op,type,pos,after,guard⟩:=o;unfold bM at hW;have E:=λx=>mV h ha x;cases op
 case move x=>exact cH h ha hd (E x) hW (by simp[execOp])
 case assign x=>exact cH h ha hd (E x) hW (by simp[execOp])
 case pick c x y =>
  simp only at hW;have hc:=E c;split at hW
  ·rename_i t he;rw[he]at hc;have aV:=hc.bX;refine cH h ha hd (v:=eG t (ev σ x) (ev σ y)) (cv:=if t then a.eval x else a.eval y) ?_ hW (by simp[execOp,aV,asBool]);unfold eG;split
   ·rename_i x' y' h1 h2;have hx:=E x;have hy:=E y;rw[h1]at hx;rw[h2]at hy;rw[hx.bX,hy.bX];cases t<;>exact .lit _
   ·cases t
    ·exact E y
    ·exact E x
  ·exact hW.elim
 case alloc e =>
  simp only at hW;obtain⟨aY,hW⟩:=hW;split at hW
  ·rename_i z hz;obtain⟨v,hv,X'⟩:=Px aY hz γ.w;obtain⟨l1,l2⟩:=Gt (os:=σ.aa) (w:=γ.w) (Z:=γ.Z) (blk:=γ.blk) z;refine CP (ob:=.var (z.map .lit)) (v:=.ptr σ.aa.length 0 0) (cv:=.pointer (some ⟨γ.w.heap.size,0,none⟩)) (cap:=0) (cur:=z.toArray) (t:=e) h ha hd ⟨rfl,Jy,l2⟩ ?_ hW ?_
   ·exact .lv _ 0 _ 0 _ (BA ..) (by simp[cB])
   ·simp[execOp,Instr.alloc,hv,newVar,newRow,X']
  ·exact hW.elim
 case box e x =>
  simp only at hW;obtain⟨hs,hK⟩:=hW;obtain⟨c1,c2,c3⟩:=Gu (E x) hs;refine CP (ob:=.var (cellsOf (ev σ x))) (cv:=.pointer (some ⟨γ.w.heap.size,0,none⟩)) (cap:=0) (cur:=(a.eval x).cells) (t:=e) h ha hd ⟨rfl,c1,c2⟩ ?_ hK ?_
  ·exact .lv _ 0 _ 0 _ (BA ..) (by simp[cB])
  ·simp[execOp,Instr.box,newVar,newRow]
 case build t parts =>
  simp only at hW;split at hW
  ·rename_i z hk hz;split at hW
   ·rename_i cs hf;obtain⟨⟨hs,hp⟩,hK⟩:=hW;obtain⟨cur,h1,h2⟩:=Ya h ha hk hz hf hs hp;exact cH h ha hd h2 hK (by simp only[execOp,Sem.run_bind,h1,Result.andThen_ok,Sem.run_pure])
   ·exact hW.elim
  ·rename_i z hk hz;split at hW
   ·rename_i cs hf;obtain⟨⟨hs,hp⟩,hK⟩:=hW;obtain⟨cur,h1,h2⟩:=Yb h ha hk hz hf hs hp;exact cH h ha hd h2 hK (by simp only[execOp,Sem.run_bind,h1,Result.andThen_ok,Sem.run_pure])
   ·exact hW.elim
  ·exact hW.elim
 case buildSlice t len parts =>
  simp only at hW;split at hW
  ·rename_i z hk hz;split at hW
   ·rename_i cs hf;obtain⟨⟨dk,h0,jD,Yc,hs⟩,hK⟩:=hW;have ht:=pw hk;obtain⟨i,d,hi,CS,qv,_,hzero⟩:=qw dk;obtain⟨zv,Yd,gP⟩:=Px dk hz γ.w;have CT:0<z.length:=by rw[jD];exact h0
    obtain⟨hl,hr⟩:=Gv h ha parts;obtain⟨cur,f1,f2⟩:=CU (σ:=σ) (γ:=γ) _ _ _ _ cs hl hr (λp hp=>by
     simp only[List.mem_map]at hp;obtain⟨q,hq,rfl⟩:=hp;rw[List.all_eq_true]at hs;exact hs q hq) (Gw z len (len*(ty P (ty P t).elem).size) (by rw[jD]) CT) hf
    have aet:cs.length=len*(ty P (ty P t).elem).size:=by
     have:=Gw (os:=σ.aa) (w:=γ.w) (Z:=γ.Z) (blk:=γ.blk) z len (len*(ty P (ty P t).elem).size) (by rw[jD]) CT;have h1:∀ (parts:List (Nat×AV)) (cs oo:List AV) (place:Nat->Option (Nat×Nat)),kh place cs parts=some oo->oo.length=cs.length:=by
      intro parts
      induction parts with
      |nil=>intro cs oo place h;simp[kh]at h;rw[h]
      |cons p parts ih =>
       intro cs oo place h;obtain⟨i,v⟩:=p;simp only[kh]at h;split at h
       ·simp at h
       ·split at h
        ·rw[ih _ _ _ h,Gx]
        ·simp at h
     rw[h1 _ _ _ _ hf,<- this.1];simp
    have hmul:len*(ty P (ty P t).elem).size<=16777216:=Yc;have hlen:len<=maxLen:=by
     have:len*1<=len*(ty P (ty P t).elem).size:=Nat.mul_le_mul_left _ h0;unfold maxLen;omega
    have dG:(Instr.buildSlice t len (parts.map λ(i,x)=>(i,a.eval x))).run P γ.w=.ok (.slice (some ⟨γ.w.heap.size,0,none⟩) len len) (γ.w.alloc (.cells cur (ty P t).elem)):=by
     have iU:¬ (len*(ty P (ty P t).elem).size > 2^24):=Bv;by_cases hl0:len*(ty P (ty P t).elem).size=0
     ·rw[hl0]at f1;have e0:((EX 0).map λx=>(#[]:Array Value)[x%(#[]:Array Value).size]!)=((EX 0).map (z.toArray[· % z.toArray.size]!)):=Jy;simp only[Instr.buildSlice,Sem.run_bind,run_underlying ht,Result.andThen_ok,run_sizeOf dk,if_false,hl0,if_true,Sem.run_pure,Nat.not_lt_zero,gt_iff_lt];rw[e0,f1];simp[newRow]
     simp only[Instr.buildSlice,Sem.run_bind,run_underlying ht,Result.andThen_ok,run_sizeOf dk,iU,if_false,hl0,Yd,Sem.run_pure,gP];rw[show((EX (len*(ty P (ty P t).elem).size)).map λx=>z.toArray[x%z.toArray.size]!)=((EX (len*(ty P (ty P t).elem).size)).map (z.toArray[· % z.toArray.size]!)) from rfl,f1];simp[newRow]
    refine CP (ob:=.arr (ty P (ty P t).elem).size (ki (ty P (ty P t).elem).size len cs)) (cv:=.slice (some ⟨γ.w.heap.size,0,none⟩) len len) (cap:=len) (cur:=cur) (t:=(ty P t).elem) h ha hd ?_ ?_ hK ?_
    ·refine⟨h0,Py _ _ _ Bv,by rw[f2.1];omega,by rw[Gy];omega,hlen,?_⟩;intro r c v hv;rw[gw];exact f2.2 _ _ (Pz _ _ _ _ _ _ hv)
    ·have:=au.ref (os:=σ.aa++[.arr (ty P (ty P t).elem).size (ki (ty P (ty P t).elem).size len cs)]) (w:=γ.w.alloc (.cells cur (ty P t).elem)) (Z:=γ.Z) (blk:=cB γ.blk σ.aa.length (some (γ.w.heap.size,0,len)))
      σ.aa.length (ty P (ty P t).elem).size 0 len γ.w.heap.size 0 len len _ (by simp;rfl) (by simp[cB]) (by rw[Gy];omega) Bv (aM _)
     simpa using this
    ·simp only[execOp,Sem.run_bind,dG,Result.andThen_ok,Sem.run_pure]
   ·exact hW.elim
  ·exact hW.elim
 case load t x =>
  simp only at hW;obtain⟨hk,hW⟩:=hW;have hx:=E x;split at hW
  ·rename_i id r c he;rw[he]at hx;split at hW
   ·rename_i row bf;obtain⟨v,mU,h1,h2,h3⟩:=Gi h hk hx bf hW;exact cH h ha hd h2 h3 (by simp only[execOp,Sem.run_bind,h1,Result.andThen_ok,Sem.run_pure])
   ·exact hW.elim
  ·rename_i cells he;rw[he]at hx;obtain⟨v,mU,h1,h2,h3⟩:=Ye h hk hx hW;exact cH h ha hd h2 h3 (by simp only[execOp,Sem.run_bind,h1,Result.andThen_ok,Sem.run_pure])
  ·exact hW.elim
 case store t x y =>
  simp only at hW;obtain⟨hk,hW⟩:=hW;have hx:=E x;split at hW
  ·rename_i id r c he;rw[he]at hx;split at hW
   ·rename_i row bf;obtain⟨hc,hK⟩:=hW;obtain⟨w',h1,h2,h3⟩:=Yf h hk hx bf (E y) hc;exact Gz h3 h2 ha hd hK (by simp only[execOp,Sem.run_bind,h1,Result.andThen_ok,Sem.run_pure])
   ·exact hW.elim
  ·exact hW.elim
 case nilCheck x =>
  simp only at hW;have hx:=E x;split at hW
  ·rename_i id r c he;rw[he]at hx;cases ho:σ.aa[id]? with
   |none=>simp[ho]at hW
   |some ob =>
    have bI:ob≠.gone/\K (σ.put dst (.ptr id r c)):=by cases ob<;>simp[ho]at hW ⊢<;>exact hW
    have aV :∃ad,a.eval x=.pointer (some ad):=by
     rcases hx.Gl with h|⟨b,cap,cells,_,_,_,h⟩|⟨_,b,o,cap,rows,_,_,h⟩
     ·rw[ho]at h;simp at h;exact absurd h bI.1
     ·exact⟨_,h⟩
     ·exact⟨_,h⟩
    obtain⟨ad,aV⟩:=aV;exact cH h ha hd hx bI.2 (by simp[execOp,aV])
  ·rename_i cells he;rw[he]at hx;have aV :∃ad,a.eval x=.pointer (some ad):=by
    obtain⟨b,o,f,h,_⟩:=hx.Gm;exact⟨_,h⟩
   obtain⟨ad,aV⟩:=aV;exact cH h ha hd hx hW (by simp[execOp,aV])
  ·exact hW.elim
 case binOp op t x y yt =>
  simp only at hW;have hx:=E x;have hy:=E y;split at hW
  ·rename_i k p k' q he hf;rw[he]at hx;rw[hf]at hy;obtain⟨rfl,hW⟩:=hW;obtain⟨v,h1,h2⟩:=Yg (P:=P) hW t γ.w;refine cH h ha hd (.lit v) h2 ?_;simp[execOp,hx.bX,hy.bX,eqGuard,h1]
  ·rename_i p q he hf;rw[he]at hx;rw[hf]at hy;obtain⟨hk,hW⟩:=hW;have ht:=Yh hk;split at hW
   ·refine cH h ha hd (.lit _) hW ?_;simp[execOp,hx.bX,hy.bX,eqGuard,run_eql_bool γ.w t p q ht]
   ·refine cH h ha hd (.lit _) hW ?_;simp[execOp,hx.bX,hy.bX,eqGuard,run_neq_bool γ.w t p q ht,bne]
   ·exact hW.elim
  ·rename_i sz rows he hf;rw[he]at hx;rw[hf]at hy;obtain⟨⟨hk,hr⟩,hW⟩:=hW;have ht:=pw hk;rcases hx.xC.inv with⟨ad,cap,rfl,aV⟩|⟨b,o,cap,f,aV,_⟩
   ·exact absurd hr Jy
   split at hW
   ·refine cH h ha hd (.lit _) hW ?_;simp[execOp,aV,hy.bX,eqGuard,Pv γ.w t _ _ _ ht]
   ·refine cH h ha hd (.lit _) hW ?_;simp[execOp,aV,hy.bX,eqGuard,XW γ.w t _ _ _ ht]
   ·exact hW.elim
  ·rename_i ad n c he hf;rw[he]at hx;rw[hf]at hy;obtain⟨hk,hW⟩:=hW;have ht:=pw hk;split at hW
   ·refine cH h ha hd (.lit _) hW ?_;simp[execOp,hx.bX,hy.bX,eqGuard,XU γ.w t _ _ _ _ ht]
   ·refine cH h ha hd (.lit _) hW ?_;simp[execOp,hx.bX,hy.bX,eqGuard,XV γ.w t _ _ _ _ ht]
   ·exact hW.elim
  ·rename_i cs ds he hf;rw[he]at hx;rw[hf]at hy;split at hW
   ·rename_i as bs vI GA;obtain⟨⟨hq,hlen,xH⟩,hW⟩:=hW;have jt:=Gr hx vI;have CV:=Gr hy GA;have heq:=hq γ.w as bs rfl hlen;split at hW
    ·refine cH h ha hd (.lit _) hW ?_;simp only[execOp,jt,CV,Sem.run_bind,run_eqGuard_agg γ.w _ _ _ _ _ _ xH,run_eql_struct,heq,Result.andThen_ok,Sem.run_pure]
    ·refine cH h ha hd (.lit _) hW ?_;simp only[execOp,jt,CV,Sem.run_bind,run_eqGuard_agg γ.w _ _ _ _ _ _ xH,run_neq_struct,heq,Result.andThen_ok,Sem.run_pure]
    ·exact hW.elim
   ·exact hW.elim
  ·exact hW.elim
 case unOp op t x =>
  simp only at hW;have hx:=E x;split at hW
  ·rename_i b he;rw[he]at hx;exact cH h ha hd (.lit _) hW (by simp[execOp,hx.bX,Op.unary])
  ·rename_i k n he;rw[he]at hx;unfold qj at hW;split at hW
   ·exact cH h ha hd (.lit _) hW (by simp[execOp,hx.bX,Op.unary,Op.intArith])
   ·exact cH h ha hd (.lit _) hW.2 (by simp[execOp,hx.bX,Op.unary,Op.intArith,p' hW.1])
  ·exact hW.elim
 case makeMap t r =>
  simp only at hW;obtain⟨⟨rfl,hk⟩,hK⟩:=hW;refine xG (σ1:={ σ with aa:=σ.aa++[.mp (vw P t) []] }) (γ1:={ γ with w:=γ.w.alloc (.map #[] 0),blk:=cB γ.blk σ.aa.length (some (γ.w.heap.size,0,0)) })
   (Fr.zO (cap:=0) _ rfl rfl rfl rfl) (h.zO (cap:=0) rfl λos' w' iF hR hb hx=>⟨_,λ_=>Go.undef,hb,hx,Jy,Jy⟩) ha hd
   (v:=.dP σ.aa.length) (cv:=.map (some γ.w.heap.size)) (.dP _ _ _ _ (BA ..) (by simp[cB])) hK ?_
  simp[execOp,Instr.makeMap,newObj,Sem.run]
 case lookup t x i ok =>
  simp only at hW;split at hW
  ·rename_i ag l id gA L z ig m5 ko;obtain⟨⟨qu,rfl,hl,GC,rfl⟩,hK⟩:=hW;obtain⟨kt,ht⟩:=Gs GC;obtain⟨_,ho,b,f,hb,aV,iM,hL,jW⟩:=zN h (E x) m5;have qy:=Gq (E i) ig hl;have hz:∀ zP vQ,P.underlying t=some (.map zP vQ)->(zeroValue vQ).run P γ.w=.ok z γ.w:=by
    intro zP vQ h';rw[ht]at h';cases h';unfold zeroV at ko;split at ko
    ·rename_i ii hi;simp[zeroValue,typeInfo,hi,ko]
    ·cases ko
   have dG:=XX (P:=P) qu hz iM hL hl;refine cH (cv:=((dV l L 0).map f).getD z) h ha hd ?_ hK (by simp only[execOp,aV,qy,Sem.run_bind,dG,Result.andThen_ok,Sem.run_pure]);unfold kP;cases hf:dV l L 0 with
   |none=>exact .lit z
   |some q =>
    obtain⟨_,u,hu⟩:=s5 hf;rw[nr]at hu;simp only[n5,hu,fN,dE];exact jW q _ hu
  ·exact hW.elim
 case mapUpdate t m k x =>
  simp only at hW;split at hW
  ·rename_i ag l id gA L ig m5;obtain⟨⟨qu,rfl,hl⟩,hK⟩:=hW;obtain⟨_,ho,b,f,hb,aV,iM,hL,jW⟩:=zN h (E m) m5;have qy:=Gq (E k) ig hl;obtain⟨f',dG,GD,h9⟩:=XZ (P:=P) qu iM hL hl (ev σ x) (a.eval x);have s6:b<γ.w.heap.size:=(lT.1 iM).1;refine Gz (σ1:={ σ with aa:=σ.aa.set id (.mp gA (cS l (ev σ x) L)) }) (γ1:={ γ with w:={ γ.w with heap:=γ.w.heap.setIfInBounds b (.map (cE (cP gA f' (cS l (ev σ x) L))) (cS l (ev σ x) L).length) } })
    (Fr.write (.mp gA (cS l (ev σ x) L)) ho Jy rfl hb (λk hk=>by simp[sE (Ne.symm hk)]) Jy rfl rfl rfl)
    (h.CW (ob':=.mp gA (cS l (ev σ x) L)) ho Jy rfl hb (λk hk=>by simp[sE (Ne.symm hk)]) Jy λos' hR=>⟨b,f',hb,by simp[s6],GD,λj p hp=>?_⟩) ha hd hK ?_
   ·rcases h9 j p hp with⟨h1,h2⟩|⟨h1,h2⟩
    ·rw[h1,h2];exact hR _ _ (E x)
    ·rw[h2];exact hR _ _ (jW j p h1)
   ·simp only[execOp,aV,qy,Sem.run_bind,dG,Result.andThen_ok,Sem.run_pure]
  ·exact hW.elim
 case mapEntry t m k =>
  simp only at hW;split at hW
  ·rename_i ag l id gA L z ig m5 ko;obtain⟨⟨qu,rfl,hl,GC⟩,hK⟩:=hW;obtain⟨kt,ht⟩:=Gs GC;obtain⟨_,ho,b,f,hb,aV,iM,hL,jW⟩:=zN h (E m) m5;have qy:=Gq (E k) ig hl;have hz:∀ zP vQ,P.underlying t=some (.map zP vQ)->(zeroValue vQ).run P γ.w=.ok z γ.w:=by
    intro zP vQ h';rw[ht]at h';cases h';unfold zeroV at ko;split at ko
    ·rename_i ii hi;simp[zeroValue,typeInfo,hi,ko]
    ·cases ko
   obtain⟨f',dG,GD,h9⟩:=X6 (P:=P) qu hz iM hL hl;have s6:b<γ.w.heap.size:=(lT.1 iM).1;have hold:au σ.aa γ.w γ.Z γ.blk ((kP l L).getD (.lit z)) (((dV l L 0).map f).getD z):=by
    unfold kP;cases hf:dV l L 0 with
    |none=>exact .lit z
    |some q =>
     obtain⟨_,u,hu⟩:=s5 hf;rw[nr]at hu;simp only[n5,hu,fN,dE];exact jW q _ hu
   generalize (kP l L).getD (.lit z)=v at *;generalize ((dV l L 0).map f).getD z=cv at *;have Yi:∀ x y,au σ.aa γ.w γ.Z γ.blk x y->au (σ.aa.set id (.mp gA (cS l v L))) { γ.w with heap:=γ.w.heap.setIfInBounds b (.map (cE (cP gA f' (cS l v L))) (cS l v L).length) } γ.Z γ.blk x y :=
    h.X1 (ob':=.mp gA (cS l v L)) ho Jy rfl hb (λk hk=>by simp[sE (Ne.symm hk)])
   refine xG (σ1:={ σ with aa:=σ.aa.set id (.mp gA (cS l v L)) }) (γ1:={ γ with w:={ γ.w with heap:=γ.w.heap.setIfInBounds b (.map (cE (cP gA f' (cS l v L))) (cS l v L).length) } })
    (Fr.write (.mp gA (cS l v L)) ho Jy rfl hb (λk hk=>by simp[sE (Ne.symm hk)]) Jy rfl rfl rfl)
    (h.CW (ob':=.mp gA (cS l v L)) ho Jy rfl hb (λk hk=>by simp[sE (Ne.symm hk)]) Jy λos' hR=>⟨b,f',hb,by simp[s6],GD,λj p hp=>?_⟩) ha hd
    (v:=.bH [v,aam (rA l L:Nat)]) (cv:=.tuple #[cv,.int .i64 (rA l L:Nat)]) (.bH _ _ rfl λj x hx=>?_) hK ?_
   ·rcases h9 j p hp with⟨h1,h2⟩|⟨h1,h2⟩
    ·rw[h1,h2];exact hR _ _ hold
    ·rw[h2];exact hR _ _ (jW j p h1)
   ·match j,hx with
    |0,hx=>cases hx;exact Yi _ _ hold
    |1,hx=>cases hx;exact .lit _
   ·simp only[execOp,aV,qy,Sem.run_bind,dG,Result.andThen_ok,Sem.run_pure]
  ·exact hW.elim
 case entryStore t m s x =>
  simp only at hW;split at hW
  ·rename_i n id ag L hs m5;obtain⟨⟨kK,ll⟩,hK⟩:=hW;obtain⟨_,ho,b,f,hb,aV,iM,hL,jW⟩:=zN h (E m) m5;have PA:=E s;rw[hs]at PA;have ij:=PA.bX;have hn:n=((n.toNat:Nat):Int):=Bv;have dG:=X9 (P:=P) (t:=t) iM (n:=n.toNat) Bv (ev σ x) (a.eval x);rw[<- hn]at dG;have s6:b<γ.w.heap.size:=(lT.1 iM).1;refine Gz (σ1:={ σ with aa:=σ.aa.set id (.mp ag (l8 n.toNat (ev σ x) L)) }) (γ1:={ γ with w:={ γ.w with heap:=γ.w.heap.setIfInBounds b (.map (cE (cP ag (λj=>if j=n.toNat then a.eval x else f j) (l8 n.toNat (ev σ x) L))) (l8 n.toNat (ev σ x) L).length) } })
    (Fr.write (.mp ag (l8 n.toNat (ev σ x) L)) ho Jy rfl hb (λk hk=>by simp[sE (Ne.symm hk)]) Jy rfl rfl rfl)
    (h.CW (ob':=.mp ag (l8 n.toNat (ev σ x) L)) ho Jy rfl hb (λk hk=>by simp[sE (Ne.symm hk)]) Jy λos' hR=>⟨b,λj=>if j=n.toNat then a.eval x else f j,hb,by simp only[Array.getElem?_setIfInBounds_self_of_lt s6],λp hp=>?_,λj p hp=>?_⟩) ha hd hK ?_
   ·unfold l8 at hp;rcases ue hp with hp|hp
    ·exact hL p hp
    ·have kk:n.toNat<L.length:=Bv;rw[hp,ax,aT kk];exact hL L[n.toNat] (List.getElem_mem kk)
   ·unfold l8 at hp;simp only[bT]at hp;by_cases hj:n.toNat=j
    ·subst hj;rw[if_pos rfl,if_pos Bv]at hp;cases hp;dsimp only;rw[if_pos rfl];exact hR _ _ (E x)
    ·rw[if_neg hj]at hp;dsimp only;rw[if_neg (Ne.symm hj)];exact hR _ _ (jW j p hp)
   ·simp only[execOp,aV,ij,Sem.run_bind,dG,Result.andThen_ok,Sem.run_pure]
  ·exact hW.elim
 case index t x i =>
  simp only at hW;split at hW
  ·rename_i s k n hs hi;obtain⟨⟨hu,kK,ll⟩,hK⟩:=hW;have hx:=E x;rw[hs]at hx;have hj:=E i;rw[hi]at hj;have bq:n.toNat<s.size:=Bv;have hg:s[n.toNat]?=some s[n.toNat]:=by simp[bq]
   refine cH h ha hd (.lit _) hK ?_;simp only[execOp,hx.bX,hj.bX,Instr.index,asIntOf,Sem.run_bind,Sem.run_pure,Result.andThen_ok,run_underlying hu,if_pos kK,hg,rB]
  ·exact hW.elim
 case makeInterface t x =>
  simp only at hW;obtain⟨h1,hK⟩:=hW;refine cH h ha hd (v:=.fI t (ev σ x)) (cv:=.iface t (a.eval x)) (.fI _ _ _ (E x)) hK ?_;unfold vx at h1;cases hu:P.underlying t with
  |none=>simp[hu]at h1
  |some d=>cases d<;>simp[hu]at h1<;>simp[execOp,Instr.makeInterface,run_underlying hu]
 case typeAssert x xt asserted ok =>
  simp only at hW;have hx:=E x;split at hW
  ·rename_i t v he;rw[he]at hx;obtain⟨cx,hc,hv⟩:=hx.Pt;obtain⟨⟨h1,rfl,rfl⟩,hK⟩:=hW;refine cH h ha hd hv hK ?_;unfold vx at h1;cases hu:P.underlying t with
   |none=>simp[hu]at h1
   |some d=>cases d<;>simp[hu]at h1<;>simp[execOp,hc,Instr.typeAssert,run_underlying hu]
  ·exact hW.elim
 case makeFunc fn first captured =>
  simp only at hW;split at hW
  ·rename_i f;obtain⟨hf,hK⟩:=hW;have Yj:first = #[]:=Array.eq_empty_of_size_eq_zero hf
   subst Yj;refine cH h ha hd (v:=.fn f (captured.toList.map (ev σ))) (cv:=.func (.func f) #[] (captured.map a.eval)) ?_ hK (by simp[execOp,Instr.makeFunc]);refine .fn _ _ _ Jy (λj x hj=>?_);simp only[cm]at hj;cases hc:captured.toList[j]? with
   |none=>simp[hc]at hj
   |some y =>
    simp[hc]at hj;subst hj;simp only[w7]at hc;simp[dJ,hc];exact E y
  ·exact hW.elim
 case makeSlice t l c =>
  simp only at hW;have hl:=E l;have hc:=E c;split at hW
  ·rename_i z k n k' n' hk hz he hf;rw[he]at hl;rw[hf]at hc;obtain⟨⟨dk,h0,jD,rfl,kK,ll,zQ,_⟩,hK,_⟩:=hW;have ht:=pw hk;obtain⟨i,d,hi,CS,qv,zR,hzero⟩:=qw dk;obtain⟨zv,vR,gP⟩:∃zv,i.zero=some zv/\zv.cells=z.toArray:=by
    rw[hzero]at hz;cases hv:i.zero with
    |none=>simp[hv]at hz
    |some v=>simp[hv]at hz;exact⟨v,rfl,by rw[<- hz]⟩
   have hb:(i.bytes:Int)*n'<=281474976710656:=by
    have h1:(i.bytes:Int)<=128:=by rw[<- zR];exact_mod_cast zQ
    have h2:(i.bytes:Int)*n'<=128*n':=Int.mul_le_mul_of_nonneg_right h1 kK;omega
   have hr:=run_make (P:=P) γ.w t _ i zv ht hi vR k k' n' n' kK (Int.le_refl _) hb Bv;rw[<- qv,gP]at hr;have CT:0<z.length:=by rw[jD];exact h0
   obtain⟨z1,z2⟩:=Gw (os:=σ.aa) (w:=γ.w) (Z:=γ.Z) (blk:=γ.blk) z n'.toNat (n'.toNat*(ty P (ty P t).elem).size) (by rw[jD]) CT;refine CP (ob:=.arr (ty P (ty P t).elem).size (aD n'.toNat (z.map .lit))) (cv:=.slice (some ⟨γ.w.heap.size,0,none⟩) n'.toNat n'.toNat) (cap:=n'.toNat) (cur:=madeCells z.toArray (n'.toNat*(ty P (ty P t).elem).size)) (t:=(ty P t).elem) h ha hd ?_ ?_ hK ?_
   ·refine⟨h0,?_,by rw[size_madeCells];omega,Jy,by unfold maxLen;omega,?_⟩
    ·intro row bf;simp only[List.mem_replicate]at bf;rw[bf.2];simp[jD]
    ·intro r c v hv;rw[gw];have dK:r<n'.toNat:=by
      simp only[cellAt,Option.bind_eq_some_iff]at hv;obtain⟨y,hy,_⟩:=hv;have:=(aN.1 hy).1;simpa using this
     simp only[cellAt,List.getElem?_replicate,dK,if_true,n5]at hv;have cz:c<(ty P (ty P t).elem).size:=by
      have:=(aN.1 hv).1;simp at this;omega
     have bq:=vL dK cz;have hx:((bp n'.toNat).flatMap λ_=>z.map AV.lit)[r*(ty P (ty P t).elem).size+c]?=some v:=by
      have key:∀ (m r:Nat),r<m->((bp m).flatMap λ_=>z.map AV.lit)[r*z.length+c]?=(z.map AV.lit)[c]?:=by
       intro m;have hlen:∀ m,((bp m).flatMap λ_=>z.map AV.lit).length=m*z.length:=by
        intro m
        induction m with
        |zero=>simp
        |succ m ih=>rw[sF,sG,aK,ih];simp[eB]
       induction m with
       |zero=>intro r hr;omega
       |succ m ih =>
        intro r hr;rw[sF,sG];by_cases GF:r<m
        ·rw[cG (by rw[hlen,jD];exact vL GF cz)];exact ih r GF
        ·have:r=m:=Bv;subst this;rw[dy (by rw[hlen];omega),hlen];simp
      rw[<- jD,key _ _ dK];exact hv
     exact z2 _ _ hx
   ·have:=au.ref (os:=σ.aa++[.arr (ty P (ty P t).elem).size (aD n'.toNat (z.map .lit))]) (w:=γ.w.alloc (.cells (madeCells z.toArray (n'.toNat*(ty P (ty P t).elem).size)) (ty P t).elem)) (Z:=γ.Z) (blk:=cB γ.blk σ.aa.length (some (γ.w.heap.size,0,n'.toNat)))
     σ.aa.length (ty P (ty P t).elem).size 0 n'.toNat γ.w.heap.size 0 n'.toNat n'.toNat _ (BA ..) (by simp[cB]) Jy Bv (aM _)
    simpa using this
   ·simp only[execOp,Sem.run_bind,hl.bX,hc.bX,hr,Result.andThen_ok,Sem.run_pure]
  ·exact hW.elim
 case fieldAddr s x f =>
  simp only at hW;have hx:=E x;split at hW
  ·rename_i off ft size hk eX;obtain⟨aH,hW⟩:=hW;obtain⟨fs,hu,s7⟩:=GG hk;obtain⟨fd,CY,zw,oz⟩:∃fd:Field,fs[f]?=some fd/\fd.offset=off/\s8 P fd.type=size:=by
    rw[s7]at eX;simp only[cm,w7]at eX;cases hg:fs[f]? with
    |none=>simp[hg]at eX
    |some fd=>simp[hg]at eX;exact⟨fd,rfl,eX.1,eX.2.2⟩
   have dG:∀ (b o:Nat),(Instr.fieldAt s (.pointer (some ⟨b,o,none⟩)) f).run P γ.w=.ok (.pointer (some ⟨b,o+off,none⟩)) γ.w:=by
    intro b o;have Yk:(sizeOf fd.type).run P γ.w=.ok size γ.w:=by
     rw[<- oz];unfold s8 at oz ⊢;cases hi:P.info? fd.type with
     |none=>rw[hi]at oz;simp at oz;omega
     |some i=>simp[sizeOf,typeInfo,hi]
    have cC:¬ size=0:=Bv;simp[Instr.fieldAt,run_underlying hu,CY,Instr.sureAddr,fieldPlace,Yk,cC,Addr.oA,zw]
   split at hW
   ·rename_i id r c he;rw[he]at hx;cases ho:σ.aa[id]? with
    |none=>simp[ho]at hW
    |some ob =>
     have bI:ob≠.gone/\K (σ.put dst (.ptr id r (c+off))):=by cases ob<;>simp[ho]at hW ⊢<;>exact hW
     rcases hx.Gl with hg|⟨b,cap,cells,h1,h2,rfl,aV⟩|⟨sz,b,o,cap,rows,h1,h2,aV⟩
     ·rw[ho]at hg;simp at hg;exact absurd hg bI.1
     ·exact cH h ha hd (.lv id (c+off) b cap cells h1 h2) bI.2 (by simp only[execOp,Sem.run_bind,aV,dG,Result.andThen_ok,Sem.run_pure])
     ·refine cH h ha hd (.ma id r (c+off) sz b o cap rows h1 h2) bI.2 ?_;simp only[execOp,Sem.run_bind,aV,dG,Result.andThen_ok,Sem.run_pure];simp[qZ]
   ·rename_i cells he;rw[he]at hx;obtain⟨b,o,g,aV,h1,h2,h3⟩:=hx.Gm;refine cH h ha hd (.bU (cells.drop off) b (o+off) (λj=>g (off+j)) h1 ?_ ?_) hW ?_
    ·intro j x hj;rw[kE]at hj;have:=h2 _ _ hj;simpa [qZ] using this
    ·intro j x hj;rw[kE]at hj;exact h3 _ _ hj
    ·simp only[execOp,Sem.run_bind,aV,dG,Result.andThen_ok,Sem.run_pure]
   ·exact hW.elim
  ·exact hW.elim
 case extract x i =>
  simp only at hW;have hx:=E x;split at hW
  ·rename_i vs he;rw[he]at hx;obtain⟨aR,aV,hs,hr⟩:=hx.Pg;split at hW
   ·rename_i v hv;have hi:i<aR.size:=by rw[hs];exact(aN.1 hv).1
    refine cH h ha hd (hr i v hv) hW ?_;simp[execOp,aV,Instr.extract,hi,dJ]
   ·exact hW.elim
  ·exact hW.elim
 case field s x f =>
  simp only at hW;have hx:=E x;split at hW
  ·rename_i off ft size hk eX;obtain⟨dk,qv,hW⟩:=hW;obtain⟨fs,hu,s7⟩:=GG hk;obtain⟨fd,CY,zw,oz⟩:∃fd:Field,fs[f]?=some fd/\fd.offset=off/\fd.type=ft:=by
    rw[s7]at eX;simp only[cm,w7]at eX;cases hg:fs[f]? with
    |none=>simp[hg]at eX
    |some fd=>simp[hg]at eX;exact⟨fd,rfl,eX.1,eX.2.1⟩
   subst zw;subst oz;split at hW
   ·rename_i cs he;rw[he]at hx;obtain⟨aR,aV,hs,hr⟩:=hx.Pf;split at hW
    ·rename_i jX;refine cH h ha hd (v:=.agg ((cs.drop fd.offset).take size)) (cv:=.agg (aR.extract fd.offset (fd.offset+size))) ?_ hW.2 ?_
     ·have h1:=hW.1;refine .agg _ _ aak (λj y hj=>?_);have fF:j<size:=by have:=(aN.1 hj).1;simp at this;omega
      rw[pS,if_pos fF,kE]at hj;have:=hr _ _ hj;simp[dJ,Array.getElem?_extract]at this ⊢;rw[if_pos Bv];exact this
     ·simp[execOp,aV,Instr.field,run_underlying hu,CY,asAgg,part,GH dk,run_sizeOf dk,jX,qv]
    ·rename_i jX;split at hW
     ·rename_i v hv;have hi:fd.offset<aR.size:=by rw[hs];exact(aN.1 hv).1
      refine cH h ha hd (hr _ v hv) hW ?_;simp[execOp,aV,Instr.field,run_underlying hu,CY,asAgg,part,GH dk,jX,hi,dJ]
     ·exact hW.elim
   ·exact hW.elim
  ·exact hW.elim
 case indexAddr t x i =>
  simp only at hW;have hx:=E x;have hi:=E i;split at hW
  ·rename_i id sz off len k n hk he hf;rw[he]at hx;rw[hf]at hi;split at hW
   ·rename_i cg rows ho;obtain⟨⟨rfl,aH,dk,h0,h1⟩,hK⟩:=hW;have ht:=pw hk;rcases hx.Gn with hg|⟨_,_,_,rfl,_⟩|⟨rfl,_⟩|⟨b,o,cap,cap',fh,g1,g2,g3,g4,g5,aV⟩
    ·rw[ho]at hg;simp at hg
    ·omega
    ·omega
    ·refine cH h ha hd (.ma id (off+n.toNat) 0 _ b o cap fh g1 g2) hK ?_;have hc:0<=n/\n<(len:Int):=⟨h0,h1⟩;simp only[execOp,Sem.run_bind,Instr.indexAt,aV,hi.bX,asIntOf,Sem.run_pure,Result.andThen_ok,run_underlying ht,Sem.run_ite,hc,and_self,if_true,run_sizeOf dk,<- aH,Addr.oA];simp[eB,qZ]
   ·exact hW.elim
  ·rename_i sz rows k n hk he hf;rw[he]at hx;rw[hf]at hi;obtain⟨⟨aH,dk,h0,h1⟩,hK⟩:=hW;have ht:=pw hk;rcases hx.xC.inv with⟨ad,cap,rfl,aV⟩|⟨b,o,cap,f,aV,g1,g2,g3,g4,g5⟩
   ·simp at h1;omega
   ·have hn:n.toNat<rows.length:=Bv;refine cH h ha hd (.bU (rows.getD n.toNat []) b (o+n.toNat*sz) (λj=>f n.toNat j) g1 ?_ ?_) hK ?_
    ·intro j y hj;have:cellAt rows n.toNat j=some y:=by
      rw[ax]at hj;simp[hn]at hj;simp[cellAt,hn,hj]
     have:=g4 _ _ _ this;simpa [qZ] using this
    ·intro j y hj;have:cellAt rows n.toNat j=some y:=by
      rw[ax]at hj;simp[hn]at hj;simp[cellAt,hn,hj]
     exact g5 _ _ _ this
    ·have hc:0<=n/\n<(rows.length:Int):=⟨h0,Bv⟩;simp only[execOp,Sem.run_bind,Instr.indexAt,aV,hi.bX,asIntOf,Sem.run_pure,Result.andThen_ok,run_underlying ht,Sem.run_ite,hc,and_self,if_true,run_sizeOf dk,<- aH,Addr.oA]
  ·rename_i id r c k n hk he hf;rw[he]at hx;rw[hf]at hi;cases ho:σ.aa[id]? with
   |none=>simp[ho]at hW
   |some ob =>
    have bI:ob≠.gone/\((ty P (ty P t).elem).kind≠99/\0<=n/\n<(ty P t).len)/\K (σ.put dst (.ptr id r (c+n.toNat*(ty P (ty P t).elem).size))):=by cases ob<;>simp[ho]at hW ⊢<;>exact hW
    obtain⟨qz,⟨dk,h0,h1⟩,hK⟩:=bI;have ht:=GJ hk;have hc:0<=n/\n<((ty P t).len:Int):=⟨h0,h1⟩;rcases hx.Gl with hg|⟨b,cap,cells,h1,h2,rfl,aV⟩|⟨sz,b,o,cap,rows,h1,h2,aV⟩
    ·rw[ho]at hg;simp at hg;exact absurd hg qz
    ·refine cH h ha hd (.lv id _ b cap cells h1 h2) hK ?_;simp only[execOp,Sem.run_bind,Instr.indexAt,aV,hi.bX,asIntOf,Sem.run_pure,Result.andThen_ok,run_underlying ht,Instr.sureAddr,Sem.run_ite,hc,and_self,if_true,run_sizeOf dk,Addr.oA]
    ·refine cH h ha hd (.ma id r _ sz b o cap rows h1 h2) hK ?_;simp only[execOp,Sem.run_bind,Instr.indexAt,aV,hi.bX,asIntOf,Sem.run_pure,Result.andThen_ok,run_underlying ht,Instr.sureAddr,Sem.run_ite,hc,and_self,if_true,run_sizeOf dk,Addr.oA];simp[qZ]
  ·rename_i cells k n hk he hf;rw[he]at hx;rw[hf]at hi;obtain⟨⟨dk,h0,h1⟩,hK⟩:=hW;have ht:=GJ hk;have hc:0<=n/\n<((ty P t).len:Int):=⟨h0,h1⟩;obtain⟨b,o,g,aV,g1,g2,g3⟩:=hx.Gm;refine cH h ha hd (.bU (cells.drop (n.toNat*(ty P (ty P t).elem).size)) b (o+n.toNat*(ty P (ty P t).elem).size) (λj=>g (n.toNat*(ty P (ty P t).elem).size+j)) g1 ?_ ?_) hK ?_
   ·intro j x hj;rw[kE]at hj;rw[qZ];exact g2 _ _ hj
   ·intro j x hj;rw[kE]at hj;exact g3 _ _ hj
   ·simp only[execOp,Sem.run_bind,Instr.indexAt,aV,hi.bX,asIntOf,Sem.run_pure,Result.andThen_ok,run_underlying ht,Instr.sureAddr,Sem.run_ite,hc,and_self,if_true,run_sizeOf dk,Addr.oA]
  ·exact hW.elim
 case slice t x lo hi mx =>
  simp only at hW;obtain⟨hk,dk,rfl,hW⟩:=hW;have ht:=pw hk;have hx:=E x;have dG:∀ (ad:Option Addr) (len cap l h:Nat) (lo hi:Option Value),(lo=none/\l=0\/∃ k,lo=some (.int k (l:Int)))->(hi=none/\h=len\/∃ k,hi=some (.int k (h:Int)))->l<=h->h<=cap ->
    (ty P (ty P t).elem).kind≠99->(Instr.sliceAt t (.slice ad len cap) lo hi none).run P γ.w=.ok (.slice (if cap=l then ad else ad.map (·.add (l*(ty P (ty P t).elem).size))) (h-l) (cap-l)) γ.w:=by
   intro ad len cap l h lo hi iV mg h1 h2 dk;have c1:(l:Int)<=h:=Bv;have c2:(h:Int)<=cap:=Bv;rcases iV with⟨rfl,rfl⟩|⟨k,rfl⟩<;>rcases mg with⟨rfl,rfl⟩|⟨k',rfl⟩ <;>
    simp[Instr.sliceAt,Instr.slice,Instr.sliceBounds,Instr.sliceBound,asIntOf,run_underlying ht,run_sizeOf dk,h1,h2]
  split at hW
  ·rename_i id sz off len he;rw[he]at hx;split at hW
   ·rename_i cg rows ho;obtain⟨rfl,aH,hW⟩:=hW;obtain⟨h0,dK,_⟩:=h.dQ _ _ ho;have key:∀ (l hh:Nat) (jE hi':Option Operand),(jE.map a.eval=none/\l=0\/∃ k,jE.map a.eval=some (.int k (l:Int)))->(hi'.map a.eval=none/\hh=len\/∃ k,hi'.map a.eval=some (.int k (hh:Int)))->l<=hh->hh<=len ->
      K (σ.put dst (.ref id cg (off+l) (hh-l)))->vO ⟨dst,.slice t x jE hi' none,type,pos,after,guard⟩ σ γ a K ((execOp a.eval ⟨dst,.slice t x jE hi' none,type,pos,after,guard⟩).run P γ.w):=by
     intro l hh jE hi' iV mg h1 h2 hK;rcases hx.Gn with hg|⟨g1,g2,rfl,rfl,aV⟩|⟨rfl,b,xx,bo,fh,g1,g2,g3,aV⟩|⟨b,o,cap,cap',fh,g1,g2,g3,g4,g5,aV⟩
     ·rw[ho]at hg;simp at hg
     ·have:l=0:=Bv;subst this;have:hh=0:=Bv;subst this;refine cH (o:=⟨dst,.slice t x jE hi' none,type,pos,after,guard⟩) h ha hd (.jU id _ g1 g2) hK ?_;have:=dG none 0 0 0 0 _ _ iV mg Bv Bv dk;simp only[execOp,Sem.run_bind,aV,jf,this,Result.andThen_ok,Sem.run_pure];simp
     ·have:l=0:=Bv;subst this;have:hh=0:=Bv;subst this;refine cH (o:=⟨dst,.slice t x jE hi' none,type,pos,after,guard⟩) h ha hd (.kn id _ _ b xx bo fh g1 g2 Bv) hK ?_;have:=dG (some ⟨b,xx,none⟩) 0 0 0 0 _ _ iV mg Bv Bv dk;simp only[execOp,Sem.run_bind,aV,jf,this,Result.andThen_ok,Sem.run_pure];simp
     ·have hr:=dG (some ⟨b,o+off*cg,none⟩) len cap' l hh _ _ iV mg h1 Bv dk;by_cases hm:cap'=l
      ·have e1:hh=l:=Bv;subst e1;rw[if_pos hm]at hr;have e2:hh-hh=0:=Bv;have e3:cap'-hh=0:=Bv;rw[e2,e3]at hr;rw[e2]at hK;refine cH (o:=⟨dst,.slice t x jE hi' none,type,pos,after,guard⟩) h ha hd (.kn id _ _ b (o+off*cg) (o,cap) fh g1 g2 Bv) hK ?_;simp only[execOp,Sem.run_bind,aV,jf,hr,Result.andThen_ok,Sem.run_pure]
      ·rw[if_neg hm]at hr;refine cH (o:=⟨dst,.slice t x jE hi' none,type,pos,after,guard⟩) h ha hd (.ref id _ (off+l) (hh-l) b o cap (cap'-l) fh g1 g2 Bv Bv Bv) hK ?_;simp only[execOp,Sem.run_bind,aV,jf,hr,Result.andThen_ok,Sem.run_pure,fN,Addr.oA,<- aH];simp[eB,qZ]
    split at hW
    ·rename_i e1 e2;have iV:lo=none:=by cases lo<;>simp at e1 ⊢
     have mg:hi=none:=by cases hi<;>simp at e2 ⊢
     subst iV;subst mg;exact key 0 len none none (.inl ⟨rfl,rfl⟩) (.inl ⟨rfl,rfl⟩) Bv (aM _) (by simpa using hW)
    ·rename_i k l e1 e2;have mg:hi=none:=by cases hi<;>simp at e2 ⊢
     subst mg;obtain⟨lo,rfl,f1⟩:∃y,lo=some y/\ev σ y=.lit (.int k l):=by cases lo<;>simp at e1 ⊢;exact e1
     obtain⟨⟨c1,c2,_⟩,hK⟩:=hW;have hl:=E lo;rw[f1]at hl;refine key l.toNat len (some lo) none (.inr ⟨k,?_⟩) (.inl ⟨rfl,rfl⟩) Bv (aM _) hK;simp[hl.bX];omega
    ·rename_i k hh e1 e2;have iV:lo=none:=by cases lo<;>simp at e1 ⊢
     subst iV;obtain⟨hi,rfl,f2⟩:∃y,hi=some y/\ev σ y=.lit (.int k hh):=by cases hi<;>simp at e2 ⊢;exact e2
     obtain⟨⟨c1,c2⟩,hK⟩:=hW;have hl:=E hi;rw[f2]at hl;refine key 0 hh.toNat none (some hi) (.inl ⟨rfl,rfl⟩) (.inr ⟨k,?_⟩) Bv Bv (by simpa using hK);simp[hl.bX];omega
    ·rename_i k l k' hh e1 e2;obtain⟨lo,rfl,f1⟩:∃y,lo=some y/\ev σ y=.lit (.int k l):=by cases lo<;>simp at e1 ⊢;exact e1
     obtain⟨hi,rfl,f2⟩:∃y,hi=some y/\ev σ y=.lit (.int k' hh):=by cases hi<;>simp at e2 ⊢;exact e2
     obtain⟨⟨c1,c2,c3⟩,hK⟩:=hW;have hl:=E lo;have zS:=E hi;rw[f1]at hl;rw[f2]at zS;refine key l.toNat hh.toNat (some lo) (some hi) (.inr ⟨k,?_⟩) (.inr ⟨k',?_⟩) Bv Bv hK
     ·simp[hl.bX];omega
     ·simp[zS.bX];omega
    ·exact hW.elim
   ·exact hW.elim
  ·rename_i sz rows he;rw[he]at hx;obtain⟨aH,hW⟩:=hW;have key:∀ (l hh:Nat) (jE hi':Option Operand),(jE.map a.eval=none/\l=0\/∃ k,jE.map a.eval=some (.int k (l:Int)))->(hi'.map a.eval=none/\hh=rows.length\/∃ k,hi'.map a.eval=some (.int k (hh:Int)))->l<=hh->hh<=rows.length ->
     K (σ.put dst (.tree sz ((rows.drop l).take (hh-l))))->vO ⟨dst,.slice t x jE hi' none,type,pos,after,guard⟩ σ γ a K ((execOp a.eval ⟨dst,.slice t x jE hi' none,type,pos,after,guard⟩).run P γ.w):=by
    intro l hh jE hi' iV mg h1 h2 hK;rcases hx.xC.inv with⟨ad,cap,rfl,aV⟩|⟨b,o,cap,f,aV,g1,g2,g3,g4,g5⟩
    ·have e1:hh=0:=by simpa using h2
     subst e1;have e2:l=0:=Bv;subst e2;have hr:=dG ad 0 cap 0 0 _ _ iV mg Bv Bv dk;refine cH (o:=⟨dst,.slice t x jE hi' none,type,pos,after,guard⟩) h ha hd (v:=.tree sz (([].drop 0).take (0-0))) (cv:=.slice (if cap=0 then ad else ad.map (·.add (0*(ty P (ty P t).elem).size))) (0-0) (cap-0)) (.bV _ _ (.nil sz (cap-0) _)) hK ?_;simp only[execOp,Sem.run_bind,aV,jf,hr,Result.andThen_ok,Sem.run_pure]
    ·have hr:=dG (some ⟨b,o,none⟩) rows.length cap l hh _ _ iV mg h1 Bv dk;by_cases lA:hh-l=0
     ·have e:(rows.drop l).take (hh-l)=[]:=by rw[lA];simp
      rw[e]at hK;rw[lA]at hr;refine cH (o:=⟨dst,.slice t x jE hi' none,type,pos,after,guard⟩) h ha hd (v:=.tree sz []) (cv:=.slice (if cap=l then some ⟨b,o,none⟩ else(some (⟨b,o,none⟩:Addr)).map (·.add (l*(ty P (ty P t).elem).size))) 0 (cap-l)) (.bV _ _ (.nil sz (cap-l) _)) hK ?_;simp only[execOp,Sem.run_bind,aV,jf,hr,Result.andThen_ok,Sem.run_pure]
     ·have cC:¬ cap=l:=Bv;rw[if_neg cC]at hr;have Yl:rows≠[]:=by intro e;subst e;simp at h2;omega
      refine cH (o:=⟨dst,.slice t x jE hi' none,type,pos,after,guard⟩) h ha hd (.bV _ _ (fK.sub g1 g2 g4 g5 l (hh-l) (cap':=cap-l) Bv g3 Bv)) hK ?_;simp only[execOp,Sem.run_bind,aV,jf,hr,Result.andThen_ok,Sem.run_pure,fN,Addr.oA,<- aH Yl]
   split at hW
   ·rename_i e1 e2;have iV:lo=none:=by cases lo<;>simp at e1 ⊢
    have mg:hi=none:=by cases hi<;>simp at e2 ⊢
    subst iV;subst mg;exact key 0 rows.length none none (.inl ⟨rfl,rfl⟩) (.inl ⟨rfl,rfl⟩) Bv (aM _) (by simpa using hW)
   ·rename_i k l e1 e2;have mg:hi=none:=by cases hi<;>simp at e2 ⊢
    subst mg;obtain⟨lo,rfl,f1⟩:∃y,lo=some y/\ev σ y=.lit (.int k l):=by cases lo<;>simp at e1 ⊢;exact e1
    obtain⟨⟨c1,c2⟩,hK⟩:=hW;have hl:=E lo;rw[f1]at hl;refine key l.toNat rows.length (some lo) none (.inr ⟨k,?_⟩) (.inl ⟨rfl,rfl⟩) Bv (aM _) ?_
    ·simp[hl.bX];omega
    ·have e:(rows.drop l.toNat).take (rows.length-l.toNat)=rows.drop l.toNat:=List.take_of_length_le Jy;rw[e];exact hK
   ·rename_i k hh e1 e2;have iV:lo=none:=by cases lo<;>simp at e1 ⊢
    subst iV;obtain⟨hi,rfl,f2⟩:∃y,hi=some y/\ev σ y=.lit (.int k hh):=by cases hi<;>simp at e2 ⊢;exact e2
    obtain⟨⟨c1,c2⟩,hK⟩:=hW;have hl:=E hi;rw[f2]at hl;refine key 0 hh.toNat none (some hi) (.inl ⟨rfl,rfl⟩) (.inr ⟨k,?_⟩) Bv Bv (by simpa using hK);simp[hl.bX];omega
   ·rename_i k l k' hh e1 e2;obtain⟨lo,rfl,f1⟩:∃y,lo=some y/\ev σ y=.lit (.int k l):=by cases lo<;>simp at e1 ⊢;exact e1
    obtain⟨hi,rfl,f2⟩:∃y,hi=some y/\ev σ y=.lit (.int k' hh):=by cases hi<;>simp at e2 ⊢;exact e2
    obtain⟨⟨c1,c2,c3⟩,hK⟩:=hW;have hl:=E lo;have zS:=E hi;rw[f1]at hl;rw[f2]at zS;refine key l.toNat hh.toNat (some lo) (some hi) (.inr ⟨k,?_⟩) (.inr ⟨k',?_⟩) Bv Bv ?_
    ·simp[hl.bX];omega
    ·simp[zS.bX];omega
    ·rw[<- List.drop_take];exact hK
   ·exact hW.elim
  ·exact hW.elim
 case call c =>
  obtain⟨callee,args,argTypes⟩:=c;have kj:∀ l,args.toList=l->args=l.toArray:=by intro l h;rw[<- h]
  have CZ:∀ l,argTypes.toList=l->argTypes=l.toArray:=by intro l h;rw[<- h]
  cases callee with
  |value f=>exact hW.elim
  |invoke r m=>exact hW.elim
  |builtin b =>
   cases b
   case len =>
    simp only at hW;split at hW
    ·rename_i x t bR fJ;have ea:=kj _ bR;have et:=CZ _ fJ;subst ea;subst et;have hx:=E x;have dG:(ty P t).kind=1->∀ ad n c,a.eval x=.slice ad n c->(execOp a.eval ⟨dst,.call ⟨.builtin .len,[x].toArray,[t].toArray⟩,type,pos,after,guard⟩).run P γ.w=.ok (.value (.int .i64 (n:Int))) γ.w:=by
      intro hk ad n c hc;have ht:=pw hk;simp[execOp,resolve,invoke,builtin,Builtin.len_,run_underlying ht,hc,goInt]
     split at hW
     ·rename_i id sz off len he;rw[he]at hx;obtain⟨hk,hW⟩:=hW;split at hW
      ·rename_i cg rows ho;rcases hx.Gn with hg|⟨_,_,_,rfl,aV⟩|⟨rfl,_,_,_,_,_,_,_,aV⟩|⟨b,o,cap,cap',fh,g1,g2,g3,g4,g5,aV⟩
       ·rw[ho]at hg;simp at hg
       ·exact cH h ha hd (.lit _) hW.2 (dG hk _ _ _ aV)
       ·exact cH h ha hd (.lit _) hW.2 (dG hk _ _ _ aV)
       ·exact cH h ha hd (.lit _) hW.2 (dG hk _ _ _ aV)
      ·exact hW.elim
     ·rename_i sz rows he;rw[he]at hx;rcases hx.xC.inv with⟨ad,cap,rfl,aV⟩|⟨b,o,cap,f,aV,_⟩
      ·exact cH h ha hd (.lit _) hW.2 (dG hW.1 _ _ _ aV)
      ·exact cH h ha hd (.lit _) hW.2 (dG hW.1 _ _ _ aV)
     ·rename_i he;rw[he]at hx;exact cH h ha hd (.lit _) hW.2 (dG hW.1 _ _ _ hx.bX)
     ·rename_i id he;obtain⟨hk,hW⟩:=hW;split at hW
      ·rename_i ag L ho;obtain⟨kt,ht⟩:=Gs hk;rw[he]at hx;obtain⟨_,_,b,f,hb,aV,iM,_⟩:=zN h hx (id:=id) (ag:=ag) (L:=L) (by simp[jQ,ho]);refine cH h ha hd (.lit _) hW ?_;simp[execOp,resolve,invoke,builtin,Builtin.len_,run_underlying ht,aV,goInt,MapKept.run_getObj_map iM,cE,vP]
      ·exact hW.elim
     ·exact hW.elim
    ·exact hW.elim
   case append =>
    simp only at hW;split at hW
    ·rename_i s x t t' bR fJ;have ea:=kj _ bR;have et:=CZ _ fJ;subst ea;subst et;split at hW
     ·rename_i z pre σ1 sz src hk hz zL qo;obtain⟨⟨rfl,dk,aH,h0,jD,hlen,zQ,qA⟩,hK⟩:=hW;have Ym:n8 σ sz (ev σ s)=some (pre,σ1):=by rw[aH];exact zL
      obtain⟨mU,γ1,h1,h2,h3,h4,h5⟩:=Yn (P:=P) (oty:=type) h hk dk hz aH h0 jD (E s) (E x) Ym qo hlen zQ qA;refine xG (γ1:=γ1) h4 h3 (by rw[h2];exact ha) hd h5 hK ?_;simp[execOp,resolve,invoke,builtin,h1]
     ·exact hW.elim
    ·exact hW.elim
   case min =>
    simp only at hW;split at hW
    ·rename_i x y bR;have ea:=kj _ bR;subst ea;have hx:=E x;have hy:=E y;split at hW
     ·rename_i k p k' q he hf;rw[he]at hx;rw[hf]at hy;obtain⟨rfl,hK⟩:=hW;refine cH h ha hd (.lit _) hK ?_;have e:(if q<p then q else p)=min p q:=by simp only[Int.min_def];split<;>split<;>omega
      simp[execOp,resolve,invoke,builtin,Builtin.min_,Builtin.min2,hx.bX,hy.bX,e]
     ·exact hW.elim
    ·exact hW.elim
   case max =>
    simp only at hW;split at hW
    ·rename_i x y bR;have ea:=kj _ bR;subst ea;have hx:=E x;have hy:=E y;split at hW
     ·rename_i k p k' q he hf;rw[he]at hx;rw[hf]at hy;obtain⟨rfl,hK⟩:=hW;refine cH h ha hd (.lit _) hK ?_;have e:(if q > p then q else p)=max p q:=by simp only[Int.max_def];split<;>split<;>omega
      simp[execOp,resolve,invoke,builtin,Builtin.max_,Builtin.max2,hx.bX,hy.bX,e]
     ·exact hW.elim
    ·exact hW.elim
   case copy =>
    simp only at hW;split at hW
    ·rename_i s x t t' bR fJ;have ea:=kj _ bR;have et:=CZ _ fJ;subst ea;subst et;have hs:=E s;split at hW
     ·rename_i id sz off len cg src he qo;rw[he]at hs;split at hW
      ·rename_i jo rows ho;obtain⟨⟨hk,dk,rfl,rfl,aH,h0,qA⟩,hK⟩:=hW;obtain⟨w',h1,h2,h3⟩:=Yo (P:=P) (t':=t') (oty:=type) h hk dk aH h0 hs (E x) ho qo qA;refine xG (γ1:={ γ with w:=w' }) h3 h2 ha hd (.lit _) hK ?_;simp[execOp,resolve,invoke,builtin,h1]
      ·exact hW.elim
     ·exact hW.elim
    ·exact hW.elim
   case clear =>
    simp only at hW;split at hW
    ·rename_i s t bR fJ;have ea:=kj _ bR;have et:=CZ _ fJ;subst ea;subst et;have hs:=E s;split at hW
     ·rename_i id sz off len z he hz;rw[he]at hs;split at hW
      ·rename_i cg rows ho;obtain⟨⟨hk,dk,rfl,jD,h0,s9⟩,hK⟩:=hW;obtain⟨w',h1,h2,h3⟩:=Yp (P:=P) (oty:=type) h hk dk jD h0 hz s9 hs ho;refine xG (γ1:={ γ with w:=w' }) h3 h2 ha hd (.lit _) hK ?_;simp[execOp,resolve,invoke,builtin,h1]
      ·exact hW.elim
     ·exact hW.elim
    ·exact hW.elim
   all_goals exact hW.elim
 case convert s d x =>
  simp only at hW;have hx:=E x;split at hW
  ·rename_i k k' n oc he;rw[he]at hx;obtain⟨hu,hK⟩:=hW;obtain⟨u,hu⟩:=Option.isSome_iff_exists.1 hu;refine cH h ha hd (.lit _) hK ?_;simp[execOp,convert,run_underlying hu,run_underlying oc,hx.bX,Conv.intToInt]
  ·exact hW.elim
 all_goals exact hW.elim
end Go.Am

