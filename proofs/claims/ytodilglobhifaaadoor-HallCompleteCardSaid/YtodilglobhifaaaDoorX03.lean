import Derived.Test.YtodilglobhifaaaDoorX02
import Derived.MapKept
import Derived.Laws.StructEq
set_option linter.all false
set_option maxHeartbeats 0
set_option maxRecDepth 20000
open List renaming getElem?_take→mn,getElem?_drop→iB,getElem?_set→bM,getElem?_eq_some_iff→aF,ext_getElem→Ea,length_append→aJ,length_singleton→lH,mem_append→bn,mem_singleton→bB,getElem?_append_left→bL,getElem?_append_right→dk,getElem?_cons_zero→nh,ext_getElem?→sK,length_set→bm,mem_or_eq_of_mem_set→qQ,getElem?_eq_getElem→aN,getD_eq_getElem?_getD→an,getElem?_concat_length→w0,getElem?_map→bR,replicate→aw,range→bj,range_succ→qU,flatMap_append→sO
open Nat renaming add_mul→eb,le_refl→aH,sub_self→kn,ne_of_lt→hJ,lt_or_ge→cZ,sub_zero→lI,zero_add→eX,add_assoc→ni
open Option renaming some→cB,map_some→fV,map_none→iR,getD_some→dg,bind_some→lG
open Array renaming range→Ab,getElem?_eq_some_iff→jJ,getElem?_setIfInBounds_ne→qS,getElem?_toList→sG,getD_eq_getD_getElem?→cT
namespace Go.Am
def Ol{P:Program}(w:World)(t e:TypeId)(a:Option Addr)(n c:Nat)(ht:P.underlying t=some (.slice e)):
  (binOp .eql t (.slice a n c) (.slice none 0 0)).run P w=.ok (.bool a.isNone) w:=by
 have h:∀ d:Nat,(Op.equalIn (d+1) t (.slice a n c) (.slice none 0 0)).run P w=.ok a.isNone w:=λd=>by
  cases a<;>simp[Op.equalIn,run_underlying ht]
 simp only[binOp];simp[Op.equal,Op.maxDepth,h 9999]
def Om{P:Program}(w:World)(t e:TypeId)(a:Option Addr)(n c:Nat)(ht:P.underlying t=some (.slice e)):
  (binOp .neq t (.slice a n c) (.slice none 0 0)).run P w=.ok (.bool (!a.isNone)) w:=by
 have h:∀ d:Nat,(Op.equalIn (d+1) t (.slice a n c) (.slice none 0 0)).run P w=.ok a.isNone w:=λd=>by
  cases a<;>simp[Op.equalIn,run_underlying ht]
 simp only[binOp];simp[Op.equal,Op.maxDepth,h 9999]
variable {P:Program}
def G4(w:World)(t:TypeId){e:TypeId}(a:Addr)(n c:Nat)(ht:P.underlying t=some (.slice e)):
  (binOp .eql t (.slice (some a) n c) (.slice none 0 0)).run P w=.ok (.bool false) w:=by
 have h:∀ d:Nat,(Op.equalIn (d+1) t (.slice (some a) n c) (.slice none 0 0)).run P w=.ok false w:=λd=>by
  simp[Op.equalIn,run_underlying ht]
 simp only[binOp];simp[Op.equal,Op.maxDepth,h 9999]
def On(w:World)(t:TypeId){e:TypeId}(a:Addr)(n c:Nat)(ht:P.underlying t=some (.slice e)):
  (binOp .neq t (.slice (some a) n c) (.slice none 0 0)).run P w=.ok (.bool true) w:=by
 have h:∀ d:Nat,(Op.equalIn (d+1) t (.slice (some a) n c) (.slice none 0 0)).run P w=.ok false w:=λd=>by
  simp[Op.equalIn,run_underlying ht]
 simp only[binOp];simp[Op.equal,Op.maxDepth,h 9999]
def ah.Bd{os:List Ob}{w:World}{Z:Nat->Prop}{blk:dK}{id r c:Nat}{cv:Value}(h:ah os w Z blk (.ptr id r c) cv):
  os[id]?=some .gone\/(∃ b cap cells,os[id]?=some (.var cells)/\blk id=some (b,0,cap)/\r=0/\cv=.pointer (some ⟨b,c,none⟩)) \/
  (∃ sz b o cap rows,os[id]?=some (.arr sz rows)/\blk id=some (b,o,cap)/\cv=.pointer (some ⟨b,o+(r*sz+c),none⟩)):=by
 cases h with
 |bp _ _ h=>cases h
 |iG _ _ _ _ h=>exact .inl h
 |iW _ _ b cap cells h hb=>exact .inr (.inl ⟨b,cap,cells,h,hb,rfl,rfl⟩)
 |jA _ _ _ sz b o cap rows h hb=>exact .inr (.inr ⟨sz,b,o,cap,rows,h,hb,rfl⟩)
def ah.Be{os:List Ob}{w:World}{Z:Nat->Prop}{blk:dK}{cells:List AV}{cv:Value}(h:ah os w Z blk (.bO cells) cv):
  ∃ b o,∃ f:Nat->Value,cv=.pointer (some ⟨b,o,none⟩)/\Z b/\(∀ j x,cells[j]?=some x->w.cell? ⟨b,o+j,none⟩=some (f j))/\∀ j x,cells[j]?=some x->dY w Z x (f j):=by
 cases h with
 |bp _ _ h=>cases h
 |bO _ b o f h1 h2 h3=>exact⟨b,o,f,rfl,h1,h2,h3⟩
def ah.Bf{os:List Ob}{w:World}{Z:Nat->Prop}{blk:dK}{id sz off len:Nat}{cv:Value}(h:ah os w Z blk (.ref id sz off len) cv):
  os[id]?=some .gone\/(os[id]?=some (.arr sz [])/\blk id=none/\off=0/\len=0/\cv=.slice none 0 0) \/
  (len=0/\∃ b x bo rows,os[id]?=some (.arr sz rows)/\blk id=some (b,bo)/\off<=rows.length/\cv=.slice (some ⟨b,x,none⟩) 0 0) \/
  (∃ b o cap cap' rows,os[id]?=some (.arr sz rows)/\blk id=some (b,o,cap)/\off+len<=rows.length/\off+cap'<=cap/\len<=cap'/\cv=.slice (some ⟨b,o+off*sz,none⟩) len cap'):=by
 cases h with
 |bp _ _ h=>cases h
 |ga _ _ _ _ _ h=>exact .inl h
 |gP _ _ h hb=>exact .inr (.inl ⟨h,hb,rfl,rfl,rfl⟩)
 |iq _ _ _ b x bo rows h hb hl=>exact .inr (.inr (.inl ⟨rfl,b,x,bo,rows,h,hb,hl,rfl⟩))
 |ref _ _ _ _ b o cap cap' rows h hb hl hc ed=>exact .inr (.inr (.inr ⟨b,o,cap,cap',rows,h,hb,hl,hc,ed,rfl⟩))
def ah.GQ{os:List Ob}{w:World}{Z:Nat->Prop}{blk:dK}{cs:List AV}{cv:Value}(h:ah os w Z blk (.agg cs) cv):
  ∃ aB,cv=.agg aB/\aB.size=cs.length/\∀ j x,cs[j]?=some x->ah os w Z blk x (aB.getD j Go.undef):=by
 cases h with
 |bp _ _ h=>cases h
 |agg _ aB h1 h2=>exact⟨aB,rfl,h1,h2⟩
def ah.GR{os:List Ob}{w:World}{Z:Nat->Prop}{blk:dK}{cs:List AV}{cv:Value}(h:ah os w Z blk (.bA cs) cv):
  ∃ aB,cv=.tuple aB/\aB.size=cs.length/\∀ j x,cs[j]?=some x->ah os w Z blk x (aB.getD j Go.undef):=by
 cases h with
 |bp _ _ h=>cases h
 |bA _ aB h1 h2=>exact⟨aB,rfl,h1,h2⟩
def ah.AF{os:List Ob}{w:World}{Z:Nat->Prop}{blk:dK}{f:FuncId}{cs:List AV}{cv:Value}(h:ah os w Z blk (.fn f cs) cv):
  ∃ aB,cv=.func (.func f) #[] aB/\aB.size=cs.length/\∀ j x,cs[j]?=some x->ah os w Z blk x (aB.getD j Go.undef):=by
 cases h with
 |bp _ _ h=>cases h
 |fn _ _ aB h1 h2=>exact⟨aB,rfl,h1,h2⟩
def ah.G1{os:List Ob}{w:World}{Z:Nat->Prop}{blk:dK}{t:TypeId}{v:AV}{cv:Value}(h:ah os w Z blk (.dW t v) cv):∃x,cv=.iface t x/\ah os w Z blk v x:=by
 cases h with
 |bp _ _ h=>cases h
 |dW _ _ x h=>exact⟨x,rfl,h⟩
def dY.inv{w:World}{Z:Nat->Prop}{sz:Nat}{rows:List (List AV)}{cv:Value}(h:dY w Z (.tree sz rows) cv):
  (∃ a cap,rows=[]/\cv=.slice a 0 cap)\/∃ b o cap,∃ f:Nat->Nat->Value,cv=.slice (some ⟨b,o,none⟩) rows.length cap/\Z b/\(∀ row∈rows,row.length=sz)/\rows.length<=cap /\
   (∀ r c x,cellAt rows r c=some x->w.cell? ⟨b,o+(r*sz+c),none⟩=some (f r c))/\∀ r c x,cellAt rows r c=some x->dY w Z x (f r c):=by
 cases h with
 |nil _ cap a=>exact .inl ⟨a,cap,rfl,rfl⟩
 |tree _ _ b o cap f h1 h2 h3 h4 h5=>exact .inr ⟨b,o,cap,f,rfl,h1,h2,h3,h4,h5⟩
def dY.sub{w:World}{Z:Nat->Prop}{sz:Nat}{rows:List (List AV)}{b o cap cap':Nat}{f:Nat->Nat->Value}(hz:Z b)(hr:∀ row∈rows,row.length=sz)(hc:∀ r c x,cellAt rows r c=some x->w.cell? ⟨b,o+(r*sz+c),none⟩=some (f r c))(ht:∀ r c x,cellAt rows r c=some x->dY w Z x (f r c))(lo n:Nat)(hn:n<=cap')(_hcap:rows.length<=cap)(iI:lo+n<=rows.length):
  dY w Z (.tree sz ((rows.drop lo).take n)) (.slice (some ⟨b,o+lo*sz,none⟩) n cap'):=by
 have hlen:((rows.drop lo).take n).length=n:=UU;have nD:∀ r c x,cellAt ((rows.drop lo).take n) r c=some x->cellAt rows (lo+r) c=some x:=by
  intro r c x hx;simp only[cellAt,mn,iB]at hx;split at hx
  ·exact hx
  ·simp at hx
 have:=dY.tree (w:=w) (Z:=Z) sz ((rows.drop lo).take n) b (o+lo*sz) cap' (λr c=>f (lo+r) c) hz (λrow h=>hr row (List.mem_of_mem_drop (List.mem_of_mem_take h))) z8
  (λr c x hx=>by
   have h1:=hc _ _ _ (nD r c x hx);rw[eb]at h1;have e:o+(lo*sz+r*sz+c)=o+lo*sz+(r*sz+c):=z8;rw[e]at h1;exact h1) (λr c x hx=>ht _ _ _ (nD r c x hx))
 rw[hlen]at this;exact this
def yg{o:Oper}{σ:St}{γ:Cx}{a:Act}{K:St->Prop}(h:aK σ γ)(ha:γ.tmps=a.tmps)(hd:∀ d,o.dst=some d->d<a.tmps.size){ob:Ob}{cur:Array Value}{t:TypeId}{cap:Nat}(aS:mH σ.aa γ.w γ.Z γ.blk 0 cap cur ob){v:AV}{cv:Value}(hv:ah (σ.aa++[ob]) (γ.w.alloc (.cells cur t)) γ.Z (bE γ.blk σ.aa.length (some (γ.w.heap.size,0,cap))) v cv)(hK:K (({ σ with aa:=σ.aa++[ob] }:St).put o.dst v)){r:Result Next}(hr:r=.ok (.value cv) (γ.w.alloc (.cells cur t))):ry o σ γ a K r :=
 tu (σ1:={ σ with aa:=σ.aa++[ob] }) (γ1:={ γ with w:=γ.w.alloc (.cells cur t),blk:=bE γ.blk σ.aa.length (some (γ.w.heap.size,0,cap)) })
  (Fr.push (t:=t) (cur:=cur) ob rfl rfl rfl rfl) (h.push (t:=t) (cur:=cur) rfl aS) ha hd hv hK hr
def oJ(eN:List (Value×Value)):(dz eN).toList=eN.mapIdx λi p=>(⟨p.1,p.2,i⟩:MapEntry):=by simp[dz]
def G5(L:List (Value×Value))(p:Value×Value):(dz L).push ⟨p.1,p.2,L.length⟩=dz (L++[p]):=by
 apply Array.toList_inj.1;rw[Array.toList_push,oJ,oJ,List.mapIdx_append];simp
def Bg(L:List (Value×Value))(i:Nat)(f:MapEntry->MapEntry)(p:Value×Value)(hf:∀ q,L[i]?=some q->f ⟨q.1,q.2,i⟩=⟨p.1,p.2,i⟩):(dz L).modify i f=dz (L.set i p):=by
 apply Array.ext_getElem?;intro j;rw[Array.getElem?_modify];simp only[dz,List.getElem?_toArray,List.getElem?_mapIdx,bM];by_cases h:i=j
 ·subst h;rw[if_pos rfl,if_pos rfl];cases hq:L[i]? with
  |none =>
   have:¬ i<L.length:=by
    have:=List.getElem?_eq_none_iff.1 hq;omega
   simp[this]
  |some q =>
   have:i<L.length:=(aF.1 hq).1;simp[this,hf q hq]
 ·rw[if_neg h,if_neg h]
def rz(ag:Nat)(f:Nat->Value)(L:List (List Int×AV)):(bQ ag f L).length=L.length:=by unfold bQ;simp
def mI(ag:Nat)(f:Nat->Value)(L:List (List Int×AV))(j:Nat):(bQ ag f L)[j]?=(L[j]?).map λp=>(kV ag p.1,f j):=by unfold bQ;simp
def oK{l:List Int}:∀ {L:List (List Int×AV)} {i j:Nat},cX l L i=some j->i<=j/\∃ v,L[j-i]?=some (l,v)
 |[],_,_,h=>by cases h
 |p::r,i,j,h=>by
  rw[cX]at h;split at h
  ·rename_i hp;cases h;exact⟨aH _,p.2,by rw[kn];simp[<- hp]⟩
  ·obtain⟨h1,v,h2⟩:=oK h;have e:j-i=(j-(i+1))+1:=z8;exact⟨z8,v,by rw[e,List.getElem?_cons_succ];exact h2⟩
def va{σ:St}{γ:Cx}(h:aK σ γ){v:AV}{cv:Value}(hv:ah σ.aa γ.w γ.Z γ.blk v cv){id ag:Nat}{L:List (List Int×AV)}(hm:gJ σ v=some (id,ag,L)):
  v=.cJ id/\σ.aa[id]?=some (.mp ag L)/\∃ b,∃ f:Nat->Value,γ.blk id=some (b,0,0)/\cv=.map (some b)/\γ.w.heap[b]?=some (.map (dz (bQ ag f L)) L.length)/\(∀ p∈L,p.1.length=e8 ag)/\∀ (j:Nat) p,L[j]?=some p->ah σ.aa γ.w γ.Z γ.blk p.2 (f j):=by
 unfold gJ at hm;split at hm
 ·rename_i rp;split at hm
  ·rename_i eG L' ho;simp only[cB.injEq,Prod.mk.injEq]at hm;obtain⟨rfl,rfl,rfl⟩:=hm;obtain⟨b,f,h1,h2,h3,h4⟩:=h.c9 _ _ ho;cases hv with
   |bp _ _ h=>cases h
   |k8 _ _ h' _=>rw[ho]at h';simp at h'
   |cJ _ b' _ _ h' hb =>
    rw[h1]at hb;simp only[cB.injEq,Prod.mk.injEq,and_true]at hb;subst hb;exact⟨rfl,ho,b,f,h1,rfl,h2,h3,h4⟩
  ·cases hm
 ·cases hm
def Bh{os:List Ob}{w:World}{Z:Nat->Prop}{blk:dK}{v:AV}{cv:Value}(hv:ah os w Z blk v cv){ag:Nat}{l:List Int}(hk:keyOf v=some (ag,l))(hl:l.length=e8 ag):cv=kV ag l:=by
 unfold keyOf at hk;split at hk
 ·simp only[cB.injEq,Prod.mk.injEq]at hk;obtain⟨rfl,rfl⟩:=hk;rw[hv.bw];rfl
 ·rename_i cs;cases hi:jR cs with
  |none=>simp[hi]at hk
  |some as =>
   simp only[hi,fV,cB.injEq,Prod.mk.injEq]at hk;obtain⟨rfl,rfl⟩:=hk;have:=Bi hv hi;rw[this];unfold e8 at hl;unfold kV;by_cases h0:as.length=0
   ·rw[if_pos h0]at hl;omega
   ·rw[if_neg h0]
 ·cases hk
def Oo{t:TypeId}{ag:Nat}(mJ:gg P t ag){z:Value}{w:World}(hz:∀ kt et,P.underlying t=some (.map kt et)->(zeroValue et).run P w=.ok z w){b:Nat}{f:Nat->Value}{L:List (List Int×AV)}(hb:w.heap[b]?=some (.map (dz (bQ ag f L)) L.length))(hL:∀ p∈L,p.1.length=e8 ag){l:List Int}(hl:l.length=e8 ag):
  (Instr.lookup t (.map (some b)) (kV ag l) false).run P w=.ok (((cX l L 0).map f).getD z) w:=by
 obtain⟨kt,et,ht,hk⟩:=mJ;obtain⟨h1,h2,h3⟩:=hk l hl;simp only[Instr.lookup,Sem.run_bind,run_underlying ht,MapKept.run_getObj_map hb,h1,h3 f L w hL,Result.andThen_ok,Sem.run_pure];cases h:cX l L 0 with
 |none=>simp[hz kt et ht]
 |some q=>simp
def Oq{t:TypeId}{ag:Nat}(mJ:gg P t ag){w:World}{b:Nat}{f:Nat->Value}{L:List (List Int×AV)}(hb:w.heap[b]?=some (.map (dz (bQ ag f L)) L.length))(hL:∀ p∈L,p.1.length=e8 ag){l:List Int}(hl:l.length=e8 ag)(v:AV)(cv:Value):
  ∃ f':Nat->Value,(Instr.mapUpdate t (.map (some b)) (kV ag l) cv).run P w=.ok () { w with heap:=w.heap.setIfInBounds b (.map (dz (bQ ag f' (bT l v L))) (bT l v L).length) } /\
   (∀ p∈bT l v L,p.1.length=e8 ag)/\∀ (j:Nat) p,(bT l v L)[j]?=some p->(p.2=v/\f' j=cv)\/(L[j]?=some p/\f' j=f j):=by
 obtain⟨kt,et,ht,hk⟩:=mJ;obtain⟨h1,h2,h3⟩:=hk l hl;simp only[Instr.mapUpdate,Sem.run_bind,run_underlying ht,MapKept.run_getObj_map hb,h1,h3 f L w hL,Result.andThen_ok];unfold bT;cases h:cX l L 0 with
 |none =>
  refine⟨λj=>if j=L.length then cv else f j,?_,λp hp=>?_,λj p hp=>?_⟩
  ·have e:=G5 (bQ ag f L) (kV ag l,cv);rw[rz]at e;have e2:bQ ag f L++[(kV ag l,cv)]=bQ ag (λj=>if j=L.length then cv else f j) (L++[(l,v)]):=by
    unfold bQ;rw[List.mapIdx_append];congr 1
    ·apply Ea
     ·simp
     ·intro j h5 h6;have:j<L.length:=by simpa using h5
      simp[hJ this]
    ·simp
   simp only[iR,MapKept.run_setObj_map _ hb,e,e2,aJ,lH]
  ·rcases bn.1 hp with hp|hp
   ·exact hL p hp
   ·rw[bB.1 hp];exact hl
  ·rcases cZ j L.length with hj|hj
   ·rw[bL hj]at hp;exact .inr ⟨hp,by dsimp only;rw[if_neg z8]⟩
   ·rw[dk hj]at hp;have:j=L.length:=by
     have:=(aF.1 hp).1;simp at this;omega
    subst this;simp only[kn,nh,cB.injEq]at hp;subst hp;exact .inl ⟨rfl,by dsimp only;rw[if_pos rfl]⟩
 |some q =>
  obtain⟨_,u,hu⟩:=oK h;rw[lI]at hu;have hq:=(aF.1 hu).1;refine⟨λj=>if j=q then cv else f j,?_,λp hp=>?_,λj p hp=>?_⟩
  ·have tv:(((dz (bQ ag f L))[q]?).map (·.key)).getD (kV ag l)=kV ag l:=by
    simp[dz,mI,hu]
   have e:=Bg (bQ ag f L) q (λe=>{ e with key:=kV ag l,val:=cv }) (kV ag l,cv) (λ_ _=>rfl);have e2:(bQ ag f L).set q (kV ag l,cv)=bQ ag (λj=>if j=q then cv else f j) (L.set q (l,v)):=by
    apply sK;intro j;rw[bM,mI,mI,bM,rz];by_cases hj:q=j
    ·subst hj;simp[hq]
    ·rw[if_neg hj,if_neg hj,if_neg (Ne.symm hj)]
   simp only[fV,tv,h2,Result.andThen_ok,MapKept.run_setObj_map _ hb,Sem.run_bind];rw[e,e2,bm]
  ·rcases qQ hp with hp|hp
   ·exact hL p hp
   ·rw[hp];exact hl
  ·simp only[bM]at hp;by_cases hj:q=j
   ·subst hj;rw[if_pos rfl,if_pos hq]at hp;cases hp;exact .inl ⟨rfl,by dsimp only;rw[if_pos rfl]⟩
   ·rw[if_neg hj]at hp;exact .inr ⟨hp,by dsimp only;rw[if_neg (Ne.symm hj)]⟩
def aK.Ot{σ:St}{γ:Cx}(h:aK σ γ){id:Nat}{ob ob':Ob}(ho:σ.aa[id]?=some ob)(hg:ob≠.gone)(j5:ob.cA ob'){b o cap:Nat}(hb:γ.blk id=some (b,o,cap)){w':World}(jE:∀ k,k≠b->w'.heap[k]?=γ.w.heap[k]?):∀ v cv,ah σ.aa γ.w γ.Z γ.blk v cv->ah (σ.aa.set id ob') w' γ.Z γ.blk v cv:=by
 have bZ:id<σ.aa.length:=(aF.1 ho).1;have iv:Live σ.aa id:=⟨ob,ho,hg⟩;exact λv cv hv =>
  hv.mono (λz hz=>⟨hz,jE z (λe=>h.nz b ⟨id,o,cap,iv,hb⟩ (e▸hz))⟩) (λi x hx=>by
   rw[bM];by_cases iJ:id=i
   ·subst iJ;rw[ho]at hx;simp at hx;subst hx;right;refine⟨rfl,ob',by simp[bZ],j5⟩
   ·rw[if_neg iJ];by_cases bK:x=.gone
    ·subst bK;exact .inl hx
    ·exact .inr ⟨rfl,x,hx,Ob.fv bK⟩)
def Ou{t:TypeId}{ag:Nat}(mJ:gg P t ag){z:Value}{w:World}(hz:∀ kt et,P.underlying t=some (.map kt et)->(zeroValue et).run P w=.ok z w){b:Nat}{f:Nat->Value}{L:List (List Int×AV)}(hb:w.heap[b]?=some (.map (dz (bQ ag f L)) L.length))(hL:∀ p∈L,p.1.length=e8 ag){l:List Int}(hl:l.length=e8 ag):
  ∃ f':Nat->Value,(Instr.mapEntry t (.map (some b)) (kV ag l)).run P w=.ok (.tuple #[((cX l L 0).map f).getD z,.int .i64 (nu l L:Nat)]) { w with heap:=w.heap.setIfInBounds b (.map (dz (bQ ag f' (bT l ((iF l L).getD (.lit z)) L))) (bT l ((iF l L).getD (.lit z)) L).length) } /\
   (∀ p∈bT l ((iF l L).getD (.lit z)) L,p.1.length=e8 ag)/\∀ (j:Nat) p,(bT l ((iF l L).getD (.lit z)) L)[j]?=some p->(p.2=(iF l L).getD (.lit z)/\f' j=((cX l L 0).map f).getD z)\/(L[j]?=some p/\f' j=f j):=by
 obtain⟨kt,et,ht,hk⟩:=mJ;obtain⟨h1,h2,h3⟩:=hk l hl;generalize hv:(iF l L).getD (.lit z)=v;simp only[Instr.mapEntry,Sem.run_bind,run_underlying ht,MapKept.run_getObj_map hb,h1,h3 f L w hL,Result.andThen_ok];unfold bT nu;cases h:cX l L 0 with
 |none =>
  refine⟨λj=>if j=L.length then z else f j,?_,λp hp=>?_,λj p hp=>?_⟩
  ·have e:=G5 (bQ ag f L) (kV ag l,z);rw[rz]at e;have e2:bQ ag f L++[(kV ag l,z)]=bQ ag (λj=>if j=L.length then z else f j) (L++[(l,v)]):=by
    unfold bQ;rw[List.mapIdx_append];congr 1
    ·apply Ea
     ·simp
     ·intro j h5 h6;have:j<L.length:=by simpa using h5
      simp[hJ this]
    ·simp
   simp only[iR,hz kt et ht,Result.andThen_ok,MapKept.run_setObj_map _ hb,Sem.run_bind,e,e2,aJ,lH,Sem.run_pure,Option.getD_none,goInt]
  ·rcases bn.1 hp with hp|hp
   ·exact hL p hp
   ·rw[bB.1 hp];exact hl
  ·rcases cZ j L.length with hj|hj
   ·rw[bL hj]at hp;exact .inr ⟨hp,by dsimp only;rw[if_neg z8]⟩
   ·rw[dk hj]at hp;have:j=L.length:=by
     have:=(aF.1 hp).1;simp at this;omega
    subst this;simp only[kn,nh,cB.injEq]at hp;subst hp;exact .inl ⟨rfl,by dsimp only;rw[if_pos rfl];rfl⟩
 |some q =>
  obtain⟨_,u,hu⟩:=oK h;rw[lI]at hu;have hq:=(aF.1 hu).1;refine⟨f,?_,λp hp=>?_,λj p hp=>?_⟩
  ·have tv:(((dz (bQ ag f L))[q]?).map (·.key)).getD (kV ag l)=kV ag l:=by
    simp[dz,mI,hu]
   have Ov:(((dz (bQ ag f L))[q]?).map (λe=>(e.born:Int))).getD 0=(q:Int):=by
    simp[dz,mI,hu]
   have e:=Bg (bQ ag f L) q (λe=>{ e with key:=kV ag l }) (kV ag l,f q) (λx hx=>by
    rw[mI,hu]at hx;cases hx;rfl)
   have e2:(bQ ag f L).set q (kV ag l,f q)=bQ ag f (L.set q (l,v)):=by
    apply sK;intro j;rw[bM,mI,mI,bM,rz];by_cases hj:q=j
    ·subst hj;simp[hq]
    ·rw[if_neg hj,if_neg hj]
   simp only[fV,tv,h2,Result.andThen_ok,MapKept.run_setObj_map _ hb,Sem.run_bind,Sem.run_pure,Ov,dg,goInt];rw[e,e2,bm]
  ·rcases qQ hp with hp|hp
   ·exact hL p hp
   ·rw[hp];exact hl
  ·simp only[bM]at hp;by_cases hj:q=j
   ·subst hj;rw[if_pos rfl,if_pos hq]at hp;cases hp;exact .inl ⟨rfl,rfl⟩
   ·rw[if_neg hj]at hp;exact .inr ⟨hp,rfl⟩
def Ow(eN:List (Value×Value)){n:Nat}(hn:n<eN.length):(dz eN).findIdx? (λe=>(e.born:Int)==(n:Int))=some n:=by
 unfold dz;rw[List.findIdx?_toArray,List.findIdx?_eq_some_iff_getElem];refine⟨by simpa using hn,Eb,λj hj=>?_⟩;simp only[List.getElem_mapIdx];simp;omega
def Ox{t:TypeId}{ag:Nat}{w:World}{b:Nat}{f:Nat->Value}{L:List (List Int×AV)}(hb:w.heap[b]?=some (.map (dz (bQ ag f L)) L.length)){n:Nat}(hn:n<L.length)(v:AV)(cv:Value):
  (Instr.entryStore t (.map (some b)) (.int .i64 (n:Nat)) cv).run P w=.ok () { w with heap:=w.heap.setIfInBounds b (.map (dz (bQ ag (λj=>if j=n then cv else f j) (jz n v L))) (jz n v L).length) }:=by
 have hf:=Ow (bQ ag f L) (n:=n) (by rw[rz];exact hn);have e:=Bg (bQ ag f L) n (λe=>{ e with val:=cv }) (kV ag (L.getD n ([],.undef)).1,cv) (λx hx=>by
  rw[mI,aN hn]at hx;cases hx;rw[an,aN hn];rfl)
 have e2:(bQ ag f L).set n (kV ag (L.getD n ([],.undef)).1,cv)=bQ ag (λj=>if j=n then cv else f j) (jz n v L):=by
  unfold jz;apply sK;intro j;rw[bM,mI,mI,bM,rz];by_cases hj:n=j
  ·subst hj;simp[hn]
  ·rw[if_neg hj,if_neg hj,if_neg (Ne.symm hj)]
 simp only[Instr.entryStore,Sem.run_bind,MapKept.run_getObj_map hb,asInt,asIntOf,Sem.run_pure,Result.andThen_ok,hf,MapKept.run_setObj_map _ hb];rw[e,e2];simp[jz]
def Bj{P:Program}{t:TypeId}(h:(ty P t).kind=8):∃kt,P.underlying t=some (.map kt (ty P t).elem):=by
 unfold ty at h ⊢;cases hi:P.info? t<;>cases hd:P.underlying t<;>simp[hi,hd]at h ⊢;rename_i i d;cases d<;>simp at h ⊢
def N9{o:Oper}{σ:St}{K:St->Prop}(hW:bh P o σ K){γ:Cx}(h:aK σ γ){a:Act}(ha:γ.tmps=a.tmps)(hd:∀ d,o.dst=some d->d<a.tmps.size):
  ry o σ γ a K ((execOp a.eval o).run P γ.w):=by
 obtain⟨dst,op,type,pos,after,guard⟩:=o;unfold bh at hW;have E:=λx=>kv h ha x;cases op
 case move x=>exact bJ h ha hd (E x) hW (by simp[execOp])
 case assign x=>exact bJ h ha hd (E x) hW (by simp[execOp])
 case pick c x y =>
  simp only at hW;have hc:=E c;split at hW
  ·rename_i t he;rw[he]at hc;have aD:=hc.bw;refine bJ h ha hd (v:=dh t (ev σ x) (ev σ y)) (cv:=if t then a.eval x else a.eval y) ?_ hW (by simp[execOp,aD,asBool]);unfold dh;split
   ·rename_i x' y' h1 h2;have hx:=E x;have hy:=E y;rw[h1]at hx;rw[h2]at hy;rw[hx.bw,hy.bw];cases t<;>exact .lit _
   ·cases t
    ·exact E y
    ·exact E x
  ·exact hW.elim
 case alloc e =>
  simp only at hW;obtain⟨aQ,hW⟩:=hW;split at hW
  ·rename_i z hz;obtain⟨v,hv,Oy⟩:=G6 aQ hz γ.w;obtain⟨l1,l2⟩:=Bk (os:=σ.aa) (w:=γ.w) (Z:=γ.Z) (blk:=γ.blk) z;refine yg (ob:=.var (z.map .lit)) (v:=.ptr σ.aa.length 0 0) (cv:=.pointer (some ⟨γ.w.heap.size,0,none⟩)) (cap:=0) (cur:=z.toArray) (t:=e) h ha hd ⟨rfl,Eb,l2⟩ ?_ hW ?_
   ·exact .iW _ 0 _ 0 _ (w0 ..) (by simp[bE])
   ·simp[execOp,Instr.alloc,hv,newVar,newRow,Oy]
  ·exact hW.elim
 case box e x =>
  simp only at hW;obtain⟨hs,hK⟩:=hW;obtain⟨c1,c2,c3⟩:=Bl (E x) hs;refine yg (ob:=.var (cellsOf (ev σ x))) (cv:=.pointer (some ⟨γ.w.heap.size,0,none⟩)) (cap:=0) (cur:=(a.eval x).cells) (t:=e) h ha hd ⟨rfl,c1,c2⟩ ?_ hK ?_
  ·exact .iW _ 0 _ 0 _ (w0 ..) (by simp[bE])
  ·simp[execOp,Instr.box,newVar,newRow]
 case build t parts =>
  simp only at hW;split at hW
  ·rename_i z hk hz;split at hW
   ·rename_i cs hf;obtain⟨⟨hs,hp⟩,hK⟩:=hW;obtain⟨cur,h1,h2⟩:=Oz h ha hk hz hf hs hp;exact bJ h ha hd h2 hK (by simp only[execOp,Sem.run_bind,h1,Result.andThen_ok,Sem.run_pure])
   ·exact hW.elim
  ·rename_i z hk hz;split at hW
   ·rename_i cs hf;obtain⟨⟨hs,hp⟩,hK⟩:=hW;obtain⟨cur,h1,h2⟩:=OA h ha hk hz hf hs hp;exact bJ h ha hd h2 hK (by simp only[execOp,Sem.run_bind,h1,Result.andThen_ok,Sem.run_pure])
   ·exact hW.elim
  ·exact hW.elim
 case buildSlice t len parts =>
  simp only at hW;split at hW
  ·rename_i z hk hz;split at hW
   ·rename_i cs hf;obtain⟨⟨bU,h0,gB,OB,hs⟩,hK⟩:=hW;have ht:=lT hk;obtain⟨i,d,hi,yh,mK,_,hzero⟩:=mL bU;obtain⟨zv,OC,eM⟩:=G6 bU hz γ.w;have yi:0<z.length:=by rw[gB];exact h0
    obtain⟨hl,hr⟩:=Bm h ha parts;obtain⟨cur,f1,f2⟩:=yj (σ:=σ) (γ:=γ) _ _ _ _ cs hl hr (λp hp=>by
     simp only[List.mem_map]at hp;obtain⟨q,hq,rfl⟩:=hp;rw[List.all_eq_true]at hs;exact hs q hq) (Bn z len (len*(ty P (ty P t).elem).size) (by rw[gB]) yi) hf
    have T1:cs.length=len*(ty P (ty P t).elem).size:=by
     have:=Bn (os:=σ.aa) (w:=γ.w) (Z:=γ.Z) (blk:=γ.blk) z len (len*(ty P (ty P t).elem).size) (by rw[gB]) yi;have h1:∀ (parts:List (Nat×AV)) (cs k9:List AV) (place:Nat->Option (Nat×Nat)),ia place cs parts=some k9->k9.length=cs.length:=by
      intro parts
      induction parts with
      |nil=>intro cs k9 place h;simp[ia]at h;rw[h]
      |cons p parts ih =>
       intro cs k9 place h;obtain⟨i,v⟩:=p;simp only[ia]at h;split at h
       ·simp at h
       ·split at h
        ·rw[ih _ _ _ h,Bo]
        ·simp at h
     rw[h1 _ _ _ _ hf,<- this.1];simp
    have hmul:len*(ty P (ty P t).elem).size<=16777216:=OB;have hlen:len<=maxLen:=by
     have:len*1<=len*(ty P (ty P t).elem).size:=Nat.mul_le_mul_left _ h0;unfold maxLen;omega
    have cN:(Instr.buildSlice t len (parts.map λ(i,x)=>(i,a.eval x))).run P γ.w=.ok (.slice (some ⟨γ.w.heap.size,0,none⟩) len len) (γ.w.alloc (.cells cur (ty P t).elem)):=by
     have G7:¬ (len*(ty P (ty P t).elem).size > 2^24):=z8;by_cases hl0:len*(ty P (ty P t).elem).size=0
     ·rw[hl0]at f1;have e0:((Ab 0).map λx=>(#[]:Array Value)[x%(#[]:Array Value).size]!)=((Ab 0).map (z.toArray[· % z.toArray.size]!)):=Eb;simp only[Instr.buildSlice,Sem.run_bind,run_underlying ht,Result.andThen_ok,run_sizeOf bU,if_false,hl0,if_true,Sem.run_pure,Nat.not_lt_zero,gt_iff_lt];rw[e0,f1];simp[newRow]
     simp only[Instr.buildSlice,Sem.run_bind,run_underlying ht,Result.andThen_ok,run_sizeOf bU,G7,if_false,hl0,OC,Sem.run_pure,eM];rw[show((Ab (len*(ty P (ty P t).elem).size)).map λx=>z.toArray[x%z.toArray.size]!)=((Ab (len*(ty P (ty P t).elem).size)).map (z.toArray[· % z.toArray.size]!)) from rfl,f1];simp[newRow]
    refine yg (ob:=.arr (ty P (ty P t).elem).size (ib (ty P (ty P t).elem).size len cs)) (cv:=.slice (some ⟨γ.w.heap.size,0,none⟩) len len) (cap:=len) (cur:=cur) (t:=(ty P t).elem) h ha hd ?_ ?_ hK ?_
    ·refine⟨h0,G8 _ _ _ z8,by rw[f2.1];omega,by rw[Bp];omega,hlen,?_⟩;intro r c v hv;rw[eX];exact f2.2 _ _ (G9 _ _ _ _ _ _ hv)
    ·have:=ah.ref (os:=σ.aa++[.arr (ty P (ty P t).elem).size (ib (ty P (ty P t).elem).size len cs)]) (w:=γ.w.alloc (.cells cur (ty P t).elem)) (Z:=γ.Z) (blk:=bE γ.blk σ.aa.length (some (γ.w.heap.size,0,len)))
      σ.aa.length (ty P (ty P t).elem).size 0 len γ.w.heap.size 0 len len _ (by simp;rfl) (by simp[bE]) (by rw[Bp];omega) z8 (aH _)
     simpa using this
    ·simp only[execOp,Sem.run_bind,cN,Result.andThen_ok,Sem.run_pure]
   ·exact hW.elim
  ·exact hW.elim
 case load t x =>
  simp only at hW;obtain⟨hk,hW⟩:=hW;have hx:=E x;split at hW
  ·rename_i id r c he;rw[he]at hx;split at hW
   ·rename_i row aM;obtain⟨v,jX,h1,h2,h3⟩:=A8 h hk hx aM hW;exact bJ h ha hd h2 h3 (by simp only[execOp,Sem.run_bind,h1,Result.andThen_ok,Sem.run_pure])
   ·exact hW.elim
  ·rename_i cells he;rw[he]at hx;obtain⟨v,jX,h1,h2,h3⟩:=OD h hk hx hW;exact bJ h ha hd h2 h3 (by simp only[execOp,Sem.run_bind,h1,Result.andThen_ok,Sem.run_pure])
  ·exact hW.elim
 case store t x y =>
  simp only at hW;obtain⟨hk,hW⟩:=hW;have hx:=E x;split at hW
  ·rename_i id r c he;rw[he]at hx;split at hW
   ·rename_i row aM;obtain⟨hc,hK⟩:=hW;obtain⟨w',h1,h2,h3⟩:=OE h hk hx aM (E y) hc;exact Br h3 h2 ha hd hK (by simp only[execOp,Sem.run_bind,h1,Result.andThen_ok,Sem.run_pure])
   ·exact hW.elim
  ·exact hW.elim
 case nilCheck x =>
  simp only at hW;have hx:=E x;split at hW
  ·rename_i id r c he;rw[he]at hx;cases ho:σ.aa[id]? with
   |none=>simp[ho]at hW
   |some ob =>
    have bc:ob≠.gone/\K (σ.put dst (.ptr id r c)):=by cases ob<;>simp[ho]at hW ⊢<;>exact hW
    have aD :∃ad,a.eval x=.pointer (some ad):=by
     rcases hx.Bd with h|⟨b,cap,cells,_,_,_,h⟩|⟨_,b,o,cap,rows,_,_,h⟩
     ·rw[ho]at h;simp at h;exact absurd h bc.1
     ·exact⟨_,h⟩
     ·exact⟨_,h⟩
    obtain⟨ad,aD⟩:=aD;exact bJ h ha hd hx bc.2 (by simp[execOp,aD])
  ·rename_i cells he;rw[he]at hx;have aD :∃ad,a.eval x=.pointer (some ad):=by
    obtain⟨b,o,f,h,_⟩:=hx.Be;exact⟨_,h⟩
   obtain⟨ad,aD⟩:=aD;exact bJ h ha hd hx hW (by simp[execOp,aD])
  ·exact hW.elim
 case binOp op t x y yt =>
  simp only at hW;have hx:=E x;have hy:=E y;split at hW
  ·rename_i k p k' q he hf;rw[he]at hx;rw[hf]at hy;obtain⟨rfl,hW⟩:=hW;obtain⟨v,h1,h2⟩:=OF (P:=P) hW t γ.w;refine bJ h ha hd (.lit v) h2 ?_;simp[execOp,hx.bw,hy.bw,eqGuard,h1]
  ·rename_i p q he hf;rw[he]at hx;rw[hf]at hy;obtain⟨hk,hW⟩:=hW;have ht:=OG hk;split at hW
   ·refine bJ h ha hd (.lit _) hW ?_;simp[execOp,hx.bw,hy.bw,eqGuard,run_eql_bool γ.w t p q ht]
   ·refine bJ h ha hd (.lit _) hW ?_;simp[execOp,hx.bw,hy.bw,eqGuard,run_neq_bool γ.w t p q ht,bne]
   ·exact hW.elim
  ·rename_i sz rows he hf;rw[he]at hx;rw[hf]at hy;obtain⟨⟨hk,hr⟩,hW⟩:=hW;have ht:=lT hk;rcases hx.ti.inv with⟨ad,cap,rfl,aD⟩|⟨b,o,cap,f,aD,_⟩
   ·exact absurd hr Eb
   split at hW
   ·refine bJ h ha hd (.lit _) hW ?_;simp[execOp,aD,hy.bw,eqGuard,G4 γ.w t _ _ _ ht]
   ·refine bJ h ha hd (.lit _) hW ?_;simp[execOp,aD,hy.bw,eqGuard,On γ.w t _ _ _ ht]
   ·exact hW.elim
  ·rename_i ad n c he hf;rw[he]at hx;rw[hf]at hy;obtain⟨hk,hW⟩:=hW;have ht:=lT hk;split at hW
   ·refine bJ h ha hd (.lit _) hW ?_;simp[execOp,hx.bw,hy.bw,eqGuard,Ol γ.w t _ _ _ _ ht]
   ·refine bJ h ha hd (.lit _) hW ?_;simp[execOp,hx.bw,hy.bw,eqGuard,Om γ.w t _ _ _ _ ht]
   ·exact hW.elim
  ·rename_i cs ds he hf;rw[he]at hx;rw[hf]at hy;split at hW
   ·rename_i as bs nr OH;obtain⟨⟨hq,hlen,G'⟩,hW⟩:=hW;have iK:=Bi hx nr;have yk:=Bi hy OH;have heq:=hq γ.w as bs rfl hlen;split at hW
    ·refine bJ h ha hd (.lit _) hW ?_;simp only[execOp,iK,yk,Sem.run_bind,run_eqGuard_agg γ.w _ _ _ _ _ _ G',run_eql_struct,heq,Result.andThen_ok,Sem.run_pure]
    ·refine bJ h ha hd (.lit _) hW ?_;simp only[execOp,iK,yk,Sem.run_bind,run_eqGuard_agg γ.w _ _ _ _ _ _ G',run_neq_struct,heq,Result.andThen_ok,Sem.run_pure]
    ·exact hW.elim
   ·exact hW.elim
  ·exact hW.elim
 case unOp op t x =>
  simp only at hW;have hx:=E x;split at hW
  ·rename_i b he;rw[he]at hx;exact bJ h ha hd (.lit _) hW (by simp[execOp,hx.bw,Op.unary])
  ·rename_i k n he;rw[he]at hx;unfold mD at hW;split at hW
   ·exact bJ h ha hd (.lit _) hW (by simp[execOp,hx.bw,Op.unary,Op.intArith])
   ·exact bJ h ha hd (.lit _) hW.2 (by simp[execOp,hx.bw,Op.unary,Op.intArith,pX hW.1])
  ·exact hW.elim
 case makeMap t r =>
  simp only at hW;obtain⟨⟨rfl,hk⟩,hK⟩:=hW;refine tu (σ1:={ σ with aa:=σ.aa++[.mp (uR P t) []] }) (γ1:={ γ with w:=γ.w.alloc (.map #[] 0),blk:=bE γ.blk σ.aa.length (some (γ.w.heap.size,0,0)) })
   (Fr.vb (cap:=0) _ rfl rfl rfl rfl) (h.vb (cap:=0) rfl λos' w' fA hR hb hx=>⟨_,λ_=>Go.undef,hb,hx,Eb,Eb⟩) ha hd
   (v:=.cJ σ.aa.length) (cv:=.map (some γ.w.heap.size)) (.cJ _ _ _ _ (w0 ..) (by simp[bE])) hK ?_
  simp[execOp,Instr.makeMap,newObj,Sem.run]
 case lookup t x i ok =>
  simp only at hW;split at hW
  ·rename_i ag l id eG L z fe jD iu;obtain⟨⟨mJ,rfl,hl,Bs,rfl⟩,hK⟩:=hW;obtain⟨kt,ht⟩:=Bj Bs;obtain⟨_,ho,b,f,hb,aD,fM,hL,gU⟩:=va h (E x) jD;have mM:=Bh (E i) fe hl;have hz:∀ vc rA,P.underlying t=some (.map vc rA)->(zeroValue rA).run P γ.w=.ok z γ.w:=by
    intro vc rA h';rw[ht]at h';cases h';unfold zeroV at iu;split at iu
    ·rename_i ii hi;simp[zeroValue,typeInfo,hi,iu]
    ·cases iu
   have cN:=Oo (P:=P) mJ hz fM hL hl;refine bJ (cv:=((cX l L 0).map f).getD z) h ha hd ?_ hK (by simp only[execOp,aD,mM,Sem.run_bind,cN,Result.andThen_ok,Sem.run_pure]);unfold iF;cases hf:cX l L 0 with
   |none=>exact .lit z
   |some q =>
    obtain⟨_,u,hu⟩:=oK hf;rw[lI]at hu;simp only[lG,hu,fV,dg];exact gU q _ hu
  ·exact hW.elim
 case mapUpdate t m k x =>
  simp only at hW;split at hW
  ·rename_i ag l id eG L fe jD;obtain⟨⟨mJ,rfl,hl⟩,hK⟩:=hW;obtain⟨_,ho,b,f,hb,aD,fM,hL,gU⟩:=va h (E m) jD;have mM:=Bh (E k) fe hl;obtain⟨f',cN,vd,fb⟩:=Oq (P:=P) mJ fM hL hl (ev σ x) (a.eval x);have oL:b<γ.w.heap.size:=(jJ.1 fM).1;refine Br (σ1:={ σ with aa:=σ.aa.set id (.mp eG (bT l (ev σ x) L)) }) (γ1:={ γ with w:={ γ.w with heap:=γ.w.heap.setIfInBounds b (.map (dz (bQ eG f' (bT l (ev σ x) L))) (bT l (ev σ x) L).length) } })
    (Fr.write (.mp eG (bT l (ev σ x) L)) ho Eb rfl hb (λk hk=>by simp[qS (Ne.symm hk)]) Eb rfl rfl rfl)
    (h.yl (ob':=.mp eG (bT l (ev σ x) L)) ho Eb rfl hb (λk hk=>by simp[qS (Ne.symm hk)]) Eb λos' hR=>⟨b,f',hb,by simp[oL],vd,λj p hp=>?_⟩) ha hd hK ?_
   ·rcases fb j p hp with⟨h1,h2⟩|⟨h1,h2⟩
    ·rw[h1,h2];exact hR _ _ (E x)
    ·rw[h2];exact hR _ _ (gU j p h1)
   ·simp only[execOp,aD,mM,Sem.run_bind,cN,Result.andThen_ok,Sem.run_pure]
  ·exact hW.elim
 case mapEntry t m k =>
  simp only at hW;split at hW
  ·rename_i ag l id eG L z fe jD iu;obtain⟨⟨mJ,rfl,hl,Bs⟩,hK⟩:=hW;obtain⟨kt,ht⟩:=Bj Bs;obtain⟨_,ho,b,f,hb,aD,fM,hL,gU⟩:=va h (E m) jD;have mM:=Bh (E k) fe hl;have hz:∀ vc rA,P.underlying t=some (.map vc rA)->(zeroValue rA).run P γ.w=.ok z γ.w:=by
    intro vc rA h';rw[ht]at h';cases h';unfold zeroV at iu;split at iu
    ·rename_i ii hi;simp[zeroValue,typeInfo,hi,iu]
    ·cases iu
   obtain⟨f',cN,vd,fb⟩:=Ou (P:=P) mJ hz fM hL hl;have oL:b<γ.w.heap.size:=(jJ.1 fM).1;have hold:ah σ.aa γ.w γ.Z γ.blk ((iF l L).getD (.lit z)) (((cX l L 0).map f).getD z):=by
    unfold iF;cases hf:cX l L 0 with
    |none=>exact .lit z
    |some q =>
     obtain⟨_,u,hu⟩:=oK hf;rw[lI]at hu;simp only[lG,hu,fV,dg];exact gU q _ hu
   generalize (iF l L).getD (.lit z)=v at *;generalize ((cX l L 0).map f).getD z=cv at *;have OI:∀ x y,ah σ.aa γ.w γ.Z γ.blk x y->ah (σ.aa.set id (.mp eG (bT l v L))) { γ.w with heap:=γ.w.heap.setIfInBounds b (.map (dz (bQ eG f' (bT l v L))) (bT l v L).length) } γ.Z γ.blk x y :=
    h.Ot (ob':=.mp eG (bT l v L)) ho Eb rfl hb (λk hk=>by simp[qS (Ne.symm hk)])
   refine tu (σ1:={ σ with aa:=σ.aa.set id (.mp eG (bT l v L)) }) (γ1:={ γ with w:={ γ.w with heap:=γ.w.heap.setIfInBounds b (.map (dz (bQ eG f' (bT l v L))) (bT l v L).length) } })
    (Fr.write (.mp eG (bT l v L)) ho Eb rfl hb (λk hk=>by simp[qS (Ne.symm hk)]) Eb rfl rfl rfl)
    (h.yl (ob':=.mp eG (bT l v L)) ho Eb rfl hb (λk hk=>by simp[qS (Ne.symm hk)]) Eb λos' hR=>⟨b,f',hb,by simp[oL],vd,λj p hp=>?_⟩) ha hd
    (v:=.bA [v,UX (nu l L:Nat)]) (cv:=.tuple #[cv,.int .i64 (nu l L:Nat)]) (.bA _ _ rfl λj x hx=>?_) hK ?_
   ·rcases fb j p hp with⟨h1,h2⟩|⟨h1,h2⟩
    ·rw[h1,h2];exact hR _ _ hold
    ·rw[h2];exact hR _ _ (gU j p h1)
   ·match j,hx with
    |0,hx=>cases hx;exact OI _ _ hold
    |1,hx=>cases hx;exact .lit _
   ·simp only[execOp,aD,mM,Sem.run_bind,cN,Result.andThen_ok,Sem.run_pure]
  ·exact hW.elim
 case entryStore t m s x =>
  simp only at hW;split at hW
  ·rename_i n id ag L hs jD;obtain⟨⟨mN,kx⟩,hK⟩:=hW;obtain⟨_,ho,b,f,hb,aD,fM,hL,gU⟩:=va h (E m) jD;have Ha:=E s;rw[hs]at Ha;have gQ:=Ha.bw;have hn:n=((n.toNat:Nat):Int):=z8;have cN:=Ox (P:=P) (t:=t) fM (n:=n.toNat) z8 (ev σ x) (a.eval x);rw[<- hn]at cN;have oL:b<γ.w.heap.size:=(jJ.1 fM).1;refine Br (σ1:={ σ with aa:=σ.aa.set id (.mp ag (jz n.toNat (ev σ x) L)) }) (γ1:={ γ with w:={ γ.w with heap:=γ.w.heap.setIfInBounds b (.map (dz (bQ ag (λj=>if j=n.toNat then a.eval x else f j) (jz n.toNat (ev σ x) L))) (jz n.toNat (ev σ x) L).length) } })
    (Fr.write (.mp ag (jz n.toNat (ev σ x) L)) ho Eb rfl hb (λk hk=>by simp[qS (Ne.symm hk)]) Eb rfl rfl rfl)
    (h.yl (ob':=.mp ag (jz n.toNat (ev σ x) L)) ho Eb rfl hb (λk hk=>by simp[qS (Ne.symm hk)]) Eb λos' hR=>⟨b,λj=>if j=n.toNat then a.eval x else f j,hb,by simp only[Array.getElem?_setIfInBounds_self_of_lt oL],λp hp=>?_,λj p hp=>?_⟩) ha hd hK ?_
   ·unfold jz at hp;rcases qQ hp with hp|hp
    ·exact hL p hp
    ·have iU:n.toNat<L.length:=z8;rw[hp,an,aN iU];exact hL L[n.toNat] (List.getElem_mem iU)
   ·unfold jz at hp;simp only[bM]at hp;by_cases hj:n.toNat=j
    ·subst hj;rw[if_pos rfl,if_pos z8]at hp;cases hp;dsimp only;rw[if_pos rfl];exact hR _ _ (E x)
    ·rw[if_neg hj]at hp;dsimp only;rw[if_neg (Ne.symm hj)];exact hR _ _ (gU j p hp)
   ·simp only[execOp,aD,gQ,Sem.run_bind,cN,Result.andThen_ok,Sem.run_pure]
  ·exact hW.elim
 case index t x i =>
  simp only at hW;split at hW
  ·rename_i s k n hs hi;obtain⟨⟨hu,mN,kx⟩,hK⟩:=hW;have hx:=E x;rw[hs]at hx;have hj:=E i;rw[hi]at hj;have aZ:n.toNat<s.size:=z8;have hg:s[n.toNat]?=some s[n.toNat]:=by simp[aZ]
   refine bJ h ha hd (.lit _) hK ?_;simp only[execOp,hx.bw,hj.bw,Instr.index,asIntOf,Sem.run_bind,Sem.run_pure,Result.andThen_ok,run_underlying hu,if_pos mN,hg,nv]
  ·exact hW.elim
 case makeInterface t x =>
  simp only at hW;obtain⟨h1,hK⟩:=hW;refine bJ h ha hd (v:=.dW t (ev σ x)) (cv:=.iface t (a.eval x)) (.dW _ _ _ (E x)) hK ?_;unfold s0 at h1;cases hu:P.underlying t with
  |none=>simp[hu]at h1
  |some d=>cases d<;>simp[hu]at h1<;>simp[execOp,Instr.makeInterface,run_underlying hu]
 case typeAssert x xt asserted ok =>
  simp only at hW;have hx:=E x;split at hW
  ·rename_i t v he;rw[he]at hx;obtain⟨cx,hc,hv⟩:=hx.G1;obtain⟨⟨h1,rfl,rfl⟩,hK⟩:=hW;refine bJ h ha hd hv hK ?_;unfold s0 at h1;cases hu:P.underlying t with
   |none=>simp[hu]at h1
   |some d=>cases d<;>simp[hu]at h1<;>simp[execOp,hc,Instr.typeAssert,run_underlying hu]
  ·exact hW.elim
 case makeFunc fn first captured =>
  simp only at hW;split at hW
  ·rename_i f;obtain⟨hf,hK⟩:=hW;have OJ:first = #[]:=Array.eq_empty_of_size_eq_zero hf
   subst OJ;refine bJ h ha hd (v:=.fn f (captured.toList.map (ev σ))) (cv:=.func (.func f) #[] (captured.map a.eval)) ?_ hK (by simp[execOp,Instr.makeFunc]);refine .fn _ _ _ Eb (λj x hj=>?_);simp only[bR]at hj;cases hc:captured.toList[j]? with
   |none=>simp[hc]at hj
   |some y =>
    simp[hc]at hj;subst hj;simp only[sG]at hc;simp[cT,hc];exact E y
  ·exact hW.elim
 case makeSlice t l c =>
  simp only at hW;have hl:=E l;have hc:=E c;split at hW
  ·rename_i z k n k' n' hk hz he hf;rw[he]at hl;rw[hf]at hc;obtain⟨⟨bU,h0,gB,rfl,mN,kx,ve,_⟩,hK,_⟩:=hW;have ht:=lT hk;obtain⟨i,d,hi,yh,mK,vf,hzero⟩:=mL bU;obtain⟨zv,rB,eM⟩:∃zv,i.zero=some zv/\zv.cells=z.toArray:=by
    rw[hzero]at hz;cases hv:i.zero with
    |none=>simp[hv]at hz
    |some v=>simp[hv]at hz;exact⟨v,rfl,by rw[<- hz]⟩
   have hb:(i.bytes:Int)*n'<=281474976710656:=by
    have h1:(i.bytes:Int)<=128:=by rw[<- vf];exact_mod_cast ve
    have h2:(i.bytes:Int)*n'<=128*n':=Int.mul_le_mul_of_nonneg_right h1 mN;omega
   have hr:=run_make (P:=P) γ.w t _ i zv ht hi rB k k' n' n' mN (Int.le_refl _) hb z8;rw[<- mK,eM]at hr;have yi:0<z.length:=by rw[gB];exact h0
   obtain⟨z1,z2⟩:=Bn (os:=σ.aa) (w:=γ.w) (Z:=γ.Z) (blk:=γ.blk) z n'.toNat (n'.toNat*(ty P (ty P t).elem).size) (by rw[gB]) yi;refine yg (ob:=.arr (ty P (ty P t).elem).size (aw n'.toNat (z.map .lit))) (cv:=.slice (some ⟨γ.w.heap.size,0,none⟩) n'.toNat n'.toNat) (cap:=n'.toNat) (cur:=madeCells z.toArray (n'.toNat*(ty P (ty P t).elem).size)) (t:=(ty P t).elem) h ha hd ?_ ?_ hK ?_
   ·refine⟨h0,?_,by rw[size_madeCells];omega,Eb,by unfold maxLen;omega,?_⟩
    ·intro row aM;simp only[List.mem_replicate]at aM;rw[aM.2];simp[gB]
    ·intro r c v hv;rw[eX];have cF:r<n'.toNat:=by
      simp only[cellAt,Option.bind_eq_some_iff]at hv;obtain⟨y,hy,_⟩:=hv;have:=(aF.1 hy).1;simpa using this
     simp only[cellAt,List.getElem?_replicate,cF,if_true,lG]at hv;have dj:c<(ty P (ty P t).elem).size:=by
      have:=(aF.1 hv).1;simp at this;omega
     have aZ:=ru cF dj;have hx:((bj n'.toNat).flatMap λ_=>z.map AV.lit)[r*(ty P (ty P t).elem).size+c]?=some v:=by
      have key:∀ (m r:Nat),r<m->((bj m).flatMap λ_=>z.map AV.lit)[r*z.length+c]?=(z.map AV.lit)[c]?:=by
       intro m;have hlen:∀ m,((bj m).flatMap λ_=>z.map AV.lit).length=m*z.length:=by
        intro m
        induction m with
        |zero=>simp
        |succ m ih=>rw[qU,sO,aJ,ih];simp[eb]
       induction m with
       |zero=>intro r hr;omega
       |succ m ih =>
        intro r hr;rw[qU,sO];by_cases Hb:r<m
        ·rw[bL (by rw[hlen,gB];exact ru Hb dj)];exact ih r Hb
        ·have:r=m:=z8;subst this;rw[dk (by rw[hlen];omega),hlen];simp
      rw[<- gB,key _ _ cF];exact hv
     exact z2 _ _ hx
   ·have:=ah.ref (os:=σ.aa++[.arr (ty P (ty P t).elem).size (aw n'.toNat (z.map .lit))]) (w:=γ.w.alloc (.cells (madeCells z.toArray (n'.toNat*(ty P (ty P t).elem).size)) (ty P t).elem)) (Z:=γ.Z) (blk:=bE γ.blk σ.aa.length (some (γ.w.heap.size,0,n'.toNat)))
     σ.aa.length (ty P (ty P t).elem).size 0 n'.toNat γ.w.heap.size 0 n'.toNat n'.toNat _ (w0 ..) (by simp[bE]) Eb z8 (aH _)
    simpa using this
   ·simp only[execOp,Sem.run_bind,hl.bw,hc.bw,hr,Result.andThen_ok,Sem.run_pure]
  ·exact hW.elim
 case fieldAddr s x f =>
  simp only at hW;have hx:=E x;split at hW
  ·rename_i off ft size hk fh;obtain⟨ay,hW⟩:=hW;obtain⟨fs,hu,oM⟩:=Bt hk;obtain⟨fd,ym,uT,ld⟩:∃fd:Field,fs[f]?=some fd/\fd.offset=off/\oN P fd.type=size:=by
    rw[oM]at fh;simp only[bR,sG]at fh;cases hg:fs[f]? with
    |none=>simp[hg]at fh
    |some fd=>simp[hg]at fh;exact⟨fd,rfl,fh.1,fh.2.2⟩
   have cN:∀ (b o:Nat),(Instr.fieldAt s (.pointer (some ⟨b,o,none⟩)) f).run P γ.w=.ok (.pointer (some ⟨b,o+off,none⟩)) γ.w:=by
    intro b o;have OK:(sizeOf fd.type).run P γ.w=.ok size γ.w:=by
     rw[<- ld];unfold oN at ld ⊢;cases hi:P.info? fd.type with
     |none=>rw[hi]at ld;simp at ld;omega
     |some i=>simp[sizeOf,typeInfo,hi]
    have bx:¬ size=0:=z8;simp[Instr.fieldAt,run_underlying hu,ym,Instr.sureAddr,fieldPlace,OK,bx,Addr.lf,uT]
   split at hW
   ·rename_i id r c he;rw[he]at hx;cases ho:σ.aa[id]? with
    |none=>simp[ho]at hW
    |some ob =>
     have bc:ob≠.gone/\K (σ.put dst (.ptr id r (c+off))):=by cases ob<;>simp[ho]at hW ⊢<;>exact hW
     rcases hx.Bd with hg|⟨b,cap,cells,h1,h2,rfl,aD⟩|⟨sz,b,o,cap,rows,h1,h2,aD⟩
     ·rw[ho]at hg;simp at hg;exact absurd hg bc.1
     ·exact bJ h ha hd (.iW id (c+off) b cap cells h1 h2) bc.2 (by simp only[execOp,Sem.run_bind,aD,cN,Result.andThen_ok,Sem.run_pure])
     ·refine bJ h ha hd (.jA id r (c+off) sz b o cap rows h1 h2) bc.2 ?_;simp only[execOp,Sem.run_bind,aD,cN,Result.andThen_ok,Sem.run_pure];simp[ni]
   ·rename_i cells he;rw[he]at hx;obtain⟨b,o,g,aD,h1,h2,h3⟩:=hx.Be;refine bJ h ha hd (.bO (cells.drop off) b (o+off) (λj=>g (off+j)) h1 ?_ ?_) hW ?_
    ·intro j x hj;rw[iB]at hj;have:=h2 _ _ hj;simpa [ni] using this
    ·intro j x hj;rw[iB]at hj;exact h3 _ _ hj
    ·simp only[execOp,Sem.run_bind,aD,cN,Result.andThen_ok,Sem.run_pure]
   ·exact hW.elim
  ·exact hW.elim
 case extract x i =>
  simp only at hW;have hx:=E x;split at hW
  ·rename_i vs he;rw[he]at hx;obtain⟨aB,aD,hs,hr⟩:=hx.GR;split at hW
   ·rename_i v hv;have hi:i<aB.size:=by rw[hs];exact(aF.1 hv).1
    refine bJ h ha hd (hr i v hv) hW ?_;simp[execOp,aD,Instr.extract,hi,cT]
   ·exact hW.elim
  ·exact hW.elim
 case field s x f =>
  simp only at hW;have hx:=E x;split at hW
  ·rename_i off ft size hk fh;obtain⟨bU,mK,hW⟩:=hW;obtain⟨fs,hu,oM⟩:=Bt hk;obtain⟨fd,ym,uT,ld⟩:∃fd:Field,fs[f]?=some fd/\fd.offset=off/\fd.type=ft:=by
    rw[oM]at fh;simp only[bR,sG]at fh;cases hg:fs[f]? with
    |none=>simp[hg]at fh
    |some fd=>simp[hg]at fh;exact⟨fd,rfl,fh.1,fh.2.1⟩
   subst uT;subst ld;split at hW
   ·rename_i cs he;rw[he]at hx;obtain⟨aB,aD,hs,hr⟩:=hx.GQ;split at hW
    ·rename_i gV;refine bJ h ha hd (v:=.agg ((cs.drop fd.offset).take size)) (cv:=.agg (aB.extract fd.offset (fd.offset+size))) ?_ hW.2 ?_
     ·have h1:=hW.1;refine .agg _ _ UU (λj y hj=>?_);have eE:j<size:=by have:=(aF.1 hj).1;simp at this;omega
      rw[mn,if_pos eE,iB]at hj;have:=hr _ _ hj;simp[cT,Array.getElem?_extract]at this ⊢;rw[if_pos z8];exact this
     ·simp[execOp,aD,Instr.field,run_underlying hu,ym,asAgg,part,Bu bU,run_sizeOf bU,gV,mK]
    ·rename_i gV;split at hW
     ·rename_i v hv;have hi:fd.offset<aB.size:=by rw[hs];exact(aF.1 hv).1
      refine bJ h ha hd (hr _ v hv) hW ?_;simp[execOp,aD,Instr.field,run_underlying hu,ym,asAgg,part,Bu bU,gV,hi,cT]
     ·exact hW.elim
   ·exact hW.elim
  ·exact hW.elim
 case indexAddr t x i =>
  simp only at hW;have hx:=E x;have hi:=E i;split at hW
  ·rename_i id sz off len k n hk he hf;rw[he]at hx;rw[hf]at hi;split at hW
   ·rename_i bz rows ho;obtain⟨⟨rfl,ay,bU,h0,h1⟩,hK⟩:=hW;have ht:=lT hk;rcases hx.Bf with hg|⟨_,_,_,rfl,_⟩|⟨rfl,_⟩|⟨b,o,cap,cap',dJ,g1,g2,g3,g4,g5,aD⟩
    ·rw[ho]at hg;simp at hg
    ·omega
    ·omega
    ·refine bJ h ha hd (.jA id (off+n.toNat) 0 _ b o cap dJ g1 g2) hK ?_;have hc:0<=n/\n<(len:Int):=⟨h0,h1⟩;simp only[execOp,Sem.run_bind,Instr.indexAt,aD,hi.bw,asIntOf,Sem.run_pure,Result.andThen_ok,run_underlying ht,Sem.run_ite,hc,and_self,if_true,run_sizeOf bU,<- ay,Addr.lf];simp[eb,ni]
   ·exact hW.elim
  ·rename_i sz rows k n hk he hf;rw[he]at hx;rw[hf]at hi;obtain⟨⟨ay,bU,h0,h1⟩,hK⟩:=hW;have ht:=lT hk;rcases hx.ti.inv with⟨ad,cap,rfl,aD⟩|⟨b,o,cap,f,aD,g1,g2,g3,g4,g5⟩
   ·simp at h1;omega
   ·have hn:n.toNat<rows.length:=z8;refine bJ h ha hd (.bO (rows.getD n.toNat []) b (o+n.toNat*sz) (λj=>f n.toNat j) g1 ?_ ?_) hK ?_
    ·intro j y hj;have:cellAt rows n.toNat j=some y:=by
      rw[an]at hj;simp[hn]at hj;simp[cellAt,hn,hj]
     have:=g4 _ _ _ this;simpa [ni] using this
    ·intro j y hj;have:cellAt rows n.toNat j=some y:=by
      rw[an]at hj;simp[hn]at hj;simp[cellAt,hn,hj]
     exact g5 _ _ _ this
    ·have hc:0<=n/\n<(rows.length:Int):=⟨h0,z8⟩;simp only[execOp,Sem.run_bind,Instr.indexAt,aD,hi.bw,asIntOf,Sem.run_pure,Result.andThen_ok,run_underlying ht,Sem.run_ite,hc,and_self,if_true,run_sizeOf bU,<- ay,Addr.lf]
  ·rename_i id r c k n hk he hf;rw[he]at hx;rw[hf]at hi;cases ho:σ.aa[id]? with
   |none=>simp[ho]at hW
   |some ob =>
    have bc:ob≠.gone/\((ty P (ty P t).elem).kind≠99/\0<=n/\n<(ty P t).len)/\K (σ.put dst (.ptr id r (c+n.toNat*(ty P (ty P t).elem).size))):=by cases ob<;>simp[ho]at hW ⊢<;>exact hW
    obtain⟨OL,⟨bU,h0,h1⟩,hK⟩:=bc;have ht:=Bv hk;have hc:0<=n/\n<((ty P t).len:Int):=⟨h0,h1⟩;rcases hx.Bd with hg|⟨b,cap,cells,h1,h2,rfl,aD⟩|⟨sz,b,o,cap,rows,h1,h2,aD⟩
    ·rw[ho]at hg;simp at hg;exact absurd hg OL
    ·refine bJ h ha hd (.iW id _ b cap cells h1 h2) hK ?_;simp only[execOp,Sem.run_bind,Instr.indexAt,aD,hi.bw,asIntOf,Sem.run_pure,Result.andThen_ok,run_underlying ht,Instr.sureAddr,Sem.run_ite,hc,and_self,if_true,run_sizeOf bU,Addr.lf]
    ·refine bJ h ha hd (.jA id r _ sz b o cap rows h1 h2) hK ?_;simp only[execOp,Sem.run_bind,Instr.indexAt,aD,hi.bw,asIntOf,Sem.run_pure,Result.andThen_ok,run_underlying ht,Instr.sureAddr,Sem.run_ite,hc,and_self,if_true,run_sizeOf bU,Addr.lf];simp[ni]
  ·rename_i cells k n hk he hf;rw[he]at hx;rw[hf]at hi;obtain⟨⟨bU,h0,h1⟩,hK⟩:=hW;have ht:=Bv hk;have hc:0<=n/\n<((ty P t).len:Int):=⟨h0,h1⟩;obtain⟨b,o,g,aD,g1,g2,g3⟩:=hx.Be;refine bJ h ha hd (.bO (cells.drop (n.toNat*(ty P (ty P t).elem).size)) b (o+n.toNat*(ty P (ty P t).elem).size) (λj=>g (n.toNat*(ty P (ty P t).elem).size+j)) g1 ?_ ?_) hK ?_
   ·intro j x hj;rw[iB]at hj;rw[ni];exact g2 _ _ hj
   ·intro j x hj;rw[iB]at hj;exact g3 _ _ hj
   ·simp only[execOp,Sem.run_bind,Instr.indexAt,aD,hi.bw,asIntOf,Sem.run_pure,Result.andThen_ok,run_underlying ht,Instr.sureAddr,Sem.run_ite,hc,and_self,if_true,run_sizeOf bU,Addr.lf]
  ·exact hW.elim
 case slice t x lo hi mx =>
  simp only at hW;obtain⟨hk,bU,rfl,hW⟩:=hW;have ht:=lT hk;have hx:=E x;have cN:∀ (ad:Option Addr) (len cap l h:Nat) (lo hi:Option Value),(lo=none/\l=0\/∃ k,lo=some (.int k (l:Int)))->(hi=none/\h=len\/∃ k,hi=some (.int k (h:Int)))->l<=h->h<=cap ->
    (ty P (ty P t).elem).kind≠99->(Instr.sliceAt t (.slice ad len cap) lo hi none).run P γ.w=.ok (.slice (if cap=l then ad else ad.map (·.add (l*(ty P (ty P t).elem).size))) (h-l) (cap-l)) γ.w:=by
   intro ad len cap l h lo hi iI jF h1 h2 bU;have c1:(l:Int)<=h:=z8;have c2:(h:Int)<=cap:=z8;rcases iI with⟨rfl,rfl⟩|⟨k,rfl⟩<;>rcases jF with⟨rfl,rfl⟩|⟨k',rfl⟩ <;>
    simp[Instr.sliceAt,Instr.slice,Instr.sliceBounds,Instr.sliceBound,asIntOf,run_underlying ht,run_sizeOf bU,h1,h2]
  split at hW
  ·rename_i id sz off len he;rw[he]at hx;split at hW
   ·rename_i bz rows ho;obtain⟨rfl,ay,hW⟩:=hW;obtain⟨h0,cF,_⟩:=h.c9 _ _ ho;have key:∀ (l hh:Nat) (gC hi':Option Operand),(gC.map a.eval=none/\l=0\/∃ k,gC.map a.eval=some (.int k (l:Int)))->(hi'.map a.eval=none/\hh=len\/∃ k,hi'.map a.eval=some (.int k (hh:Int)))->l<=hh->hh<=len ->
      K (σ.put dst (.ref id bz (off+l) (hh-l)))->ry ⟨dst,.slice t x gC hi' none,type,pos,after,guard⟩ σ γ a K ((execOp a.eval ⟨dst,.slice t x gC hi' none,type,pos,after,guard⟩).run P γ.w):=by
     intro l hh gC hi' iI jF h1 h2 hK;rcases hx.Bf with hg|⟨g1,g2,rfl,rfl,aD⟩|⟨rfl,b,xx,bo,dJ,g1,g2,g3,aD⟩|⟨b,o,cap,cap',dJ,g1,g2,g3,g4,g5,aD⟩
     ·rw[ho]at hg;simp at hg
     ·have:l=0:=z8;subst this;have:hh=0:=z8;subst this;refine bJ (o:=⟨dst,.slice t x gC hi' none,type,pos,after,guard⟩) h ha hd (.gP id _ g1 g2) hK ?_;have:=cN none 0 0 0 0 _ _ iI jF z8 z8 bU;simp only[execOp,Sem.run_bind,aD,iR,this,Result.andThen_ok,Sem.run_pure];simp
     ·have:l=0:=z8;subst this;have:hh=0:=z8;subst this;refine bJ (o:=⟨dst,.slice t x gC hi' none,type,pos,after,guard⟩) h ha hd (.iq id _ _ b xx bo dJ g1 g2 z8) hK ?_;have:=cN (some ⟨b,xx,none⟩) 0 0 0 0 _ _ iI jF z8 z8 bU;simp only[execOp,Sem.run_bind,aD,iR,this,Result.andThen_ok,Sem.run_pure];simp
     ·have hr:=cN (some ⟨b,o+off*bz,none⟩) len cap' l hh _ _ iI jF h1 z8 bU;by_cases hm:cap'=l
      ·have e1:hh=l:=z8;subst e1;rw[if_pos hm]at hr;have e2:hh-hh=0:=z8;have e3:cap'-hh=0:=z8;rw[e2,e3]at hr;rw[e2]at hK;refine bJ (o:=⟨dst,.slice t x gC hi' none,type,pos,after,guard⟩) h ha hd (.iq id _ _ b (o+off*bz) (o,cap) dJ g1 g2 z8) hK ?_;simp only[execOp,Sem.run_bind,aD,iR,hr,Result.andThen_ok,Sem.run_pure]
      ·rw[if_neg hm]at hr;refine bJ (o:=⟨dst,.slice t x gC hi' none,type,pos,after,guard⟩) h ha hd (.ref id _ (off+l) (hh-l) b o cap (cap'-l) dJ g1 g2 z8 z8 z8) hK ?_;simp only[execOp,Sem.run_bind,aD,iR,hr,Result.andThen_ok,Sem.run_pure,fV,Addr.lf,<- ay];simp[eb,ni]
    split at hW
    ·rename_i e1 e2;have iI:lo=none:=by cases lo<;>simp at e1 ⊢
     have jF:hi=none:=by cases hi<;>simp at e2 ⊢
     subst iI;subst jF;exact key 0 len none none (.inl ⟨rfl,rfl⟩) (.inl ⟨rfl,rfl⟩) z8 (aH _) (by simpa using hW)
    ·rename_i k l e1 e2;have jF:hi=none:=by cases hi<;>simp at e2 ⊢
     subst jF;obtain⟨lo,rfl,f1⟩:∃y,lo=some y/\ev σ y=.lit (.int k l):=by cases lo<;>simp at e1 ⊢;exact e1
     obtain⟨⟨c1,c2,_⟩,hK⟩:=hW;have hl:=E lo;rw[f1]at hl;refine key l.toNat len (some lo) none (.inr ⟨k,?_⟩) (.inl ⟨rfl,rfl⟩) z8 (aH _) hK;simp[hl.bw];omega
    ·rename_i k hh e1 e2;have iI:lo=none:=by cases lo<;>simp at e1 ⊢
     subst iI;obtain⟨hi,rfl,f2⟩:∃y,hi=some y/\ev σ y=.lit (.int k hh):=by cases hi<;>simp at e2 ⊢;exact e2
     obtain⟨⟨c1,c2⟩,hK⟩:=hW;have hl:=E hi;rw[f2]at hl;refine key 0 hh.toNat none (some hi) (.inl ⟨rfl,rfl⟩) (.inr ⟨k,?_⟩) z8 z8 (by simpa using hK);simp[hl.bw];omega
    ·rename_i k l k' hh e1 e2;obtain⟨lo,rfl,f1⟩:∃y,lo=some y/\ev σ y=.lit (.int k l):=by cases lo<;>simp at e1 ⊢;exact e1
     obtain⟨hi,rfl,f2⟩:∃y,hi=some y/\ev σ y=.lit (.int k' hh):=by cases hi<;>simp at e2 ⊢;exact e2
     obtain⟨⟨c1,c2,c3⟩,hK⟩:=hW;have hl:=E lo;have vg:=E hi;rw[f1]at hl;rw[f2]at vg;refine key l.toNat hh.toNat (some lo) (some hi) (.inr ⟨k,?_⟩) (.inr ⟨k',?_⟩) z8 z8 hK
     ·simp[hl.bw];omega
     ·simp[vg.bw];omega
    ·exact hW.elim
   ·exact hW.elim
  ·rename_i sz rows he;rw[he]at hx;obtain⟨ay,hW⟩:=hW;have key:∀ (l hh:Nat) (gC hi':Option Operand),(gC.map a.eval=none/\l=0\/∃ k,gC.map a.eval=some (.int k (l:Int)))->(hi'.map a.eval=none/\hh=rows.length\/∃ k,hi'.map a.eval=some (.int k (hh:Int)))->l<=hh->hh<=rows.length ->
     K (σ.put dst (.tree sz ((rows.drop l).take (hh-l))))->ry ⟨dst,.slice t x gC hi' none,type,pos,after,guard⟩ σ γ a K ((execOp a.eval ⟨dst,.slice t x gC hi' none,type,pos,after,guard⟩).run P γ.w):=by
    intro l hh gC hi' iI jF h1 h2 hK;rcases hx.ti.inv with⟨ad,cap,rfl,aD⟩|⟨b,o,cap,f,aD,g1,g2,g3,g4,g5⟩
    ·have e1:hh=0:=by simpa using h2
     subst e1;have e2:l=0:=z8;subst e2;have hr:=cN ad 0 cap 0 0 _ _ iI jF z8 z8 bU;refine bJ (o:=⟨dst,.slice t x gC hi' none,type,pos,after,guard⟩) h ha hd (v:=.tree sz (([].drop 0).take (0-0))) (cv:=.slice (if cap=0 then ad else ad.map (·.add (0*(ty P (ty P t).elem).size))) (0-0) (cap-0)) (.bp _ _ (.nil sz (cap-0) _)) hK ?_;simp only[execOp,Sem.run_bind,aD,iR,hr,Result.andThen_ok,Sem.run_pure]
    ·have hr:=cN (some ⟨b,o,none⟩) rows.length cap l hh _ _ iI jF h1 z8 bU;by_cases nH:hh-l=0
     ·have e:(rows.drop l).take (hh-l)=[]:=by rw[nH];simp
      rw[e]at hK;rw[nH]at hr;refine bJ (o:=⟨dst,.slice t x gC hi' none,type,pos,after,guard⟩) h ha hd (v:=.tree sz []) (cv:=.slice (if cap=l then some ⟨b,o,none⟩ else(some (⟨b,o,none⟩:Addr)).map (·.add (l*(ty P (ty P t).elem).size))) 0 (cap-l)) (.bp _ _ (.nil sz (cap-l) _)) hK ?_;simp only[execOp,Sem.run_bind,aD,iR,hr,Result.andThen_ok,Sem.run_pure]
     ·have bx:¬ cap=l:=z8;rw[if_neg bx]at hr;have ON:rows≠[]:=by intro e;subst e;simp at h2;omega
      refine bJ (o:=⟨dst,.slice t x gC hi' none,type,pos,after,guard⟩) h ha hd (.bp _ _ (dY.sub g1 g2 g4 g5 l (hh-l) (cap':=cap-l) z8 g3 z8)) hK ?_;simp only[execOp,Sem.run_bind,aD,iR,hr,Result.andThen_ok,Sem.run_pure,fV,Addr.lf,<- ay ON]
   split at hW
   ·rename_i e1 e2;have iI:lo=none:=by cases lo<;>simp at e1 ⊢
    have jF:hi=none:=by cases hi<;>simp at e2 ⊢
    subst iI;subst jF;exact key 0 rows.length none none (.inl ⟨rfl,rfl⟩) (.inl ⟨rfl,rfl⟩) z8 (aH _) (by simpa using hW)
   ·rename_i k l e1 e2;have jF:hi=none:=by cases hi<;>simp at e2 ⊢
    subst jF;obtain⟨lo,rfl,f1⟩:∃y,lo=some y/\ev σ y=.lit (.int k l):=by cases lo<;>simp at e1 ⊢;exact e1
    obtain⟨⟨c1,c2⟩,hK⟩:=hW;have hl:=E lo;rw[f1]at hl;refine key l.toNat rows.length (some lo) none (.inr ⟨k,?_⟩) (.inl ⟨rfl,rfl⟩) z8 (aH _) ?_
    ·simp[hl.bw];omega
    ·have e:(rows.drop l.toNat).take (rows.length-l.toNat)=rows.drop l.toNat:=List.take_of_length_le Eb;rw[e];exact hK
   ·rename_i k hh e1 e2;have iI:lo=none:=by cases lo<;>simp at e1 ⊢
    subst iI;obtain⟨hi,rfl,f2⟩:∃y,hi=some y/\ev σ y=.lit (.int k hh):=by cases hi<;>simp at e2 ⊢;exact e2
    obtain⟨⟨c1,c2⟩,hK⟩:=hW;have hl:=E hi;rw[f2]at hl;refine key 0 hh.toNat none (some hi) (.inl ⟨rfl,rfl⟩) (.inr ⟨k,?_⟩) z8 z8 (by simpa using hK);simp[hl.bw];omega
   ·rename_i k l k' hh e1 e2;obtain⟨lo,rfl,f1⟩:∃y,lo=some y/\ev σ y=.lit (.int k l):=by cases lo<;>simp at e1 ⊢;exact e1
    obtain⟨hi,rfl,f2⟩:∃y,hi=some y/\ev σ y=.lit (.int k' hh):=by cases hi<;>simp at e2 ⊢;exact e2
    obtain⟨⟨c1,c2,c3⟩,hK⟩:=hW;have hl:=E lo;have vg:=E hi;rw[f1]at hl;rw[f2]at vg;refine key l.toNat hh.toNat (some lo) (some hi) (.inr ⟨k,?_⟩) (.inr ⟨k',?_⟩) z8 z8 ?_
    ·simp[hl.bw];omega
    ·simp[vg.bw];omega
    ·rw[<- List.drop_take];exact hK
   ·exact hW.elim
  ·exact hW.elim
 case call c =>
  obtain⟨callee,args,argTypes⟩:=c;have ig:∀ l,args.toList=l->args=l.toArray:=by intro l h;rw[<- h]
  have yn:∀ l,argTypes.toList=l->argTypes=l.toArray:=by intro l h;rw[<- h]
  cases callee with
  |value f=>exact hW.elim
  |invoke r m=>exact hW.elim
  |builtin b =>
   cases b
   case len =>
    simp only at hW;split at hW
    ·rename_i x t bF eL;have ea:=ig _ bF;have et:=yn _ eL;subst ea;subst et;have hx:=E x;have cN:(ty P t).kind=1->∀ ad n c,a.eval x=.slice ad n c->(execOp a.eval ⟨dst,.call ⟨.builtin .len,[x].toArray,[t].toArray⟩,type,pos,after,guard⟩).run P γ.w=.ok (.value (.int .i64 (n:Int))) γ.w:=by
      intro hk ad n c hc;have ht:=lT hk;simp[execOp,resolve,invoke,builtin,Builtin.len_,run_underlying ht,hc,goInt]
     split at hW
     ·rename_i id sz off len he;rw[he]at hx;obtain⟨hk,hW⟩:=hW;split at hW
      ·rename_i bz rows ho;rcases hx.Bf with hg|⟨_,_,_,rfl,aD⟩|⟨rfl,_,_,_,_,_,_,_,aD⟩|⟨b,o,cap,cap',dJ,g1,g2,g3,g4,g5,aD⟩
       ·rw[ho]at hg;simp at hg
       ·exact bJ h ha hd (.lit _) hW.2 (cN hk _ _ _ aD)
       ·exact bJ h ha hd (.lit _) hW.2 (cN hk _ _ _ aD)
       ·exact bJ h ha hd (.lit _) hW.2 (cN hk _ _ _ aD)
      ·exact hW.elim
     ·rename_i sz rows he;rw[he]at hx;rcases hx.ti.inv with⟨ad,cap,rfl,aD⟩|⟨b,o,cap,f,aD,_⟩
      ·exact bJ h ha hd (.lit _) hW.2 (cN hW.1 _ _ _ aD)
      ·exact bJ h ha hd (.lit _) hW.2 (cN hW.1 _ _ _ aD)
     ·rename_i he;rw[he]at hx;exact bJ h ha hd (.lit _) hW.2 (cN hW.1 _ _ _ hx.bw)
     ·rename_i id he;obtain⟨hk,hW⟩:=hW;split at hW
      ·rename_i ag L ho;obtain⟨kt,ht⟩:=Bj hk;rw[he]at hx;obtain⟨_,_,b,f,hb,aD,fM,_⟩:=va h hx (id:=id) (ag:=ag) (L:=L) (by simp[gJ,ho]);refine bJ h ha hd (.lit _) hW ?_;simp[execOp,resolve,invoke,builtin,Builtin.len_,run_underlying ht,aD,goInt,MapKept.run_getObj_map fM,dz,rz]
      ·exact hW.elim
     ·exact hW.elim
    ·exact hW.elim
   case append =>
    simp only at hW;split at hW
    ·rename_i s x t t' bF eL;have ea:=ig _ bF;have et:=yn _ eL;subst ea;subst et;split at hW
     ·rename_i z pre σ1 sz src hk hz u7 mG;obtain⟨⟨rfl,bU,ay,h0,gB,hlen,ve,oO⟩,hK⟩:=hW;have OO:kW σ sz (ev σ s)=some (pre,σ1):=by rw[ay];exact u7
      obtain⟨jX,γ1,h1,h2,h3,h4,h5⟩:=OP (P:=P) (oty:=type) h hk bU hz ay h0 gB (E s) (E x) OO mG hlen ve oO;refine tu (γ1:=γ1) h4 h3 (by rw[h2];exact ha) hd h5 hK ?_;simp[execOp,resolve,invoke,builtin,h1]
     ·exact hW.elim
    ·exact hW.elim
   case min =>
    simp only at hW;split at hW
    ·rename_i x y bF;have ea:=ig _ bF;subst ea;have hx:=E x;have hy:=E y;split at hW
     ·rename_i k p k' q he hf;rw[he]at hx;rw[hf]at hy;obtain⟨rfl,hK⟩:=hW;refine bJ h ha hd (.lit _) hK ?_;have e:(if q<p then q else p)=min p q:=by simp only[Int.min_def];split<;>split<;>omega
      simp[execOp,resolve,invoke,builtin,Builtin.min_,Builtin.min2,hx.bw,hy.bw,e]
     ·exact hW.elim
    ·exact hW.elim
   case max =>
    simp only at hW;split at hW
    ·rename_i x y bF;have ea:=ig _ bF;subst ea;have hx:=E x;have hy:=E y;split at hW
     ·rename_i k p k' q he hf;rw[he]at hx;rw[hf]at hy;obtain⟨rfl,hK⟩:=hW;refine bJ h ha hd (.lit _) hK ?_;have e:(if q > p then q else p)=max p q:=by simp only[Int.max_def];split<;>split<;>omega
      simp[execOp,resolve,invoke,builtin,Builtin.max_,Builtin.max2,hx.bw,hy.bw,e]
     ·exact hW.elim
    ·exact hW.elim
   case copy =>
    simp only at hW;split at hW
    ·rename_i s x t t' bF eL;have ea:=ig _ bF;have et:=yn _ eL;subst ea;subst et;have hs:=E s;split at hW
     ·rename_i id sz off len bz src he mG;rw[he]at hs;split at hW
      ·rename_i gj rows ho;obtain⟨⟨hk,bU,rfl,rfl,ay,h0,oO⟩,hK⟩:=hW;obtain⟨w',h1,h2,h3⟩:=OQ (P:=P) (t':=t') (oty:=type) h hk bU ay h0 hs (E x) ho mG oO;refine tu (γ1:={ γ with w:=w' }) h3 h2 ha hd (.lit _) hK ?_;simp[execOp,resolve,invoke,builtin,h1]
      ·exact hW.elim
     ·exact hW.elim
    ·exact hW.elim
   case clear =>
    simp only at hW;split at hW
    ·rename_i s t bF eL;have ea:=ig _ bF;have et:=yn _ eL;subst ea;subst et;have hs:=E s;split at hW
     ·rename_i id sz off len z he hz;rw[he]at hs;split at hW
      ·rename_i bz rows ho;obtain⟨⟨hk,bU,rfl,gB,h0,oP⟩,hK⟩:=hW;obtain⟨w',h1,h2,h3⟩:=OR (P:=P) (oty:=type) h hk bU gB h0 hz oP hs ho;refine tu (γ1:={ γ with w:=w' }) h3 h2 ha hd (.lit _) hK ?_;simp[execOp,resolve,invoke,builtin,h1]
      ·exact hW.elim
     ·exact hW.elim
    ·exact hW.elim
   all_goals exact hW.elim
 case convert s d x =>
  simp only at hW;have hx:=E x;split at hW
  ·rename_i k k' n kZ he;rw[he]at hx;obtain⟨hu,hK⟩:=hW;obtain⟨u,hu⟩:=Option.isSome_iff_exists.1 hu;refine bJ h ha hd (.lit _) hK ?_;simp[execOp,convert,run_underlying hu,run_underlying kZ,hx.bw,Conv.intToInt]
  ·exact hW.elim
 all_goals exact hW.elim
end Go.Am

