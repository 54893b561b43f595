import Derived.Test.YtjadfapldkfbpaaGreatX02
import Derived.MapKept
import Derived.Laws.StructEq
set_option linter.all false
set_option maxHeartbeats 0
set_option maxRecDepth 20000
open List renaming getElem?_take→vS,getElem?_drop→oL,getElem?_set→cm,getElem?_eq_some_iff→aY,ext_getElem→PS,length_append→bQ,length_singleton→rj,mem_append→cz,mem_singleton→ec,getElem?_append_left→dg,getElem?_append_right→fO,getElem?_cons_zero→vP,ext_getElem?→jR,length_set→bw,mem_or_eq_of_mem_set→oP,getElem?_eq_getElem→bT,getD_eq_getElem?_getD→aG,getElem?_concat_length→G7,getElem?_map→b6,replicate→bG,range→aZ,range_succ→xu,flatMap_append→rn
open Nat renaming add_mul→gj,le_refl→aR,sub_self→jv,ne_of_lt→oO,lt_or_ge→fN,sub_zero→yN,zero_add→gf,add_assoc→xw
open Option renaming some→dD,map_some→fE,map_none→oN,getD_some→k9,bind_some→uG
open Array renaming range→Ko,getElem?_eq_some_iff→pB,getElem?_setIfInBounds_ne→uI,getElem?_toList→DK,getD_eq_getD_getElem?→fU
namespace Go.Am
def aev{P:Program}(w:World)(t e:TypeId)(a:Option Addr)(n c:Nat)(ht:P.underlying t=some (.slice e)):
  (binOp .eql t (.slice a n c) (.slice none 0 0)).run P w=.ok (.bool a.isNone) w:=by
 have h:∀ d:Nat,(Op.equalIn (d+1) t (.slice a n c) (.slice none 0 0)).run P w=.ok a.isNone w:=λd=>by
  cases a<;>simp[Op.equalIn,run_underlying ht]
 simp only[binOp];simp[Op.equal,Op.maxDepth,h 9999]
def aew{P:Program}(w:World)(t e:TypeId)(a:Option Addr)(n c:Nat)(ht:P.underlying t=some (.slice e)):
  (binOp .neq t (.slice a n c) (.slice none 0 0)).run P w=.ok (.bool (!a.isNone)) w:=by
 have h:∀ d:Nat,(Op.equalIn (d+1) t (.slice a n c) (.slice none 0 0)).run P w=.ok a.isNone w:=λd=>by
  cases a<;>simp[Op.equalIn,run_underlying ht]
 simp only[binOp];simp[Op.equal,Op.maxDepth,h 9999]
variable {P:Program}
def aex(w:World)(t:TypeId){e:TypeId}(a:Addr)(n c:Nat)(ht:P.underlying t=some (.slice e)):
  (binOp .eql t (.slice (some a) n c) (.slice none 0 0)).run P w=.ok (.bool false) w:=by
 have h:∀ d:Nat,(Op.equalIn (d+1) t (.slice (some a) n c) (.slice none 0 0)).run P w=.ok false w:=λd=>by
  simp[Op.equalIn,run_underlying ht]
 simp only[binOp];simp[Op.equal,Op.maxDepth,h 9999]
def aey(w:World)(t:TypeId){e:TypeId}(a:Addr)(n c:Nat)(ht:P.underlying t=some (.slice e)):
  (binOp .neq t (.slice (some a) n c) (.slice none 0 0)).run P w=.ok (.bool true) w:=by
 have h:∀ d:Nat,(Op.equalIn (d+1) t (.slice (some a) n c) (.slice none 0 0)).run P w=.ok false w:=λd=>by
  simp[Op.equalIn,run_underlying ht]
 simp only[binOp];simp[Op.equal,Op.maxDepth,h 9999]
def aA.Lt{os:List Ob}{w:World}{Z:Nat->Prop}{blk:ij}{id r c:Nat}{cv:Value}(h:aA os w Z blk (.ptr id r c) cv):
  os[id]?=some .gone\/(∃ b cap cells,os[id]?=some (.var cells)/\blk id=some (b,0,cap)/\r=0/\cv=.pointer (some ⟨b,c,none⟩)) \/
  (∃ sz b o cap rows,os[id]?=some (.arr sz rows)/\blk id=some (b,o,cap)/\cv=.pointer (some ⟨b,o+(r*sz+c),none⟩)):=by
 cases h with
 |cp _ _ h=>cases h
 |od _ _ _ _ h=>exact .inl h
 |oS _ _ b cap cells h hb=>exact .inr (.inl ⟨b,cap,cells,h,hb,rfl,rfl⟩)
 |pM _ _ _ sz b o cap rows h hb=>exact .inr (.inr ⟨sz,b,o,cap,rows,h,hb,rfl⟩)
def aA.Lu{os:List Ob}{w:World}{Z:Nat->Prop}{blk:ij}{cells:List AV}{cv:Value}(h:aA os w Z blk (.bm cells) cv):
  ∃ b o,∃ f:Nat->Value,cv=.pointer (some ⟨b,o,none⟩)/\Z b/\(∀ j x,cells[j]?=some x->w.cell? ⟨b,o+j,none⟩=some (f j))/\∀ j x,cells[j]?=some x->gk w Z x (f j):=by
 cases h with
 |cp _ _ h=>cases h
 |bm _ b o f h1 h2 h3=>exact⟨b,o,f,rfl,h1,h2,h3⟩
def aA.Lv{os:List Ob}{w:World}{Z:Nat->Prop}{blk:ij}{id sz off len:Nat}{cv:Value}(h:aA os w Z blk (.ref id sz off len) cv):
  os[id]?=some .gone\/(os[id]?=some (.arr sz [])/\blk id=none/\off=0/\len=0/\cv=.slice none 0 0) \/
  (len=0/\∃ b x bo rows,os[id]?=some (.arr sz rows)/\blk id=some (b,bo)/\off<=rows.length/\cv=.slice (some ⟨b,x,none⟩) 0 0) \/
  (∃ b o cap cap' rows,os[id]?=some (.arr sz rows)/\blk id=some (b,o,cap)/\off+len<=rows.length/\off+cap'<=cap/\len<=cap'/\cv=.slice (some ⟨b,o+off*sz,none⟩) len cap'):=by
 cases h with
 |cp _ _ h=>cases h
 |lV _ _ _ _ _ h=>exact .inl h
 |nA _ _ h hb=>exact .inr (.inl ⟨h,hb,rfl,rfl,rfl⟩)
 |oe _ _ _ b x bo rows h hb hl=>exact .inr (.inr (.inl ⟨rfl,b,x,bo,rows,h,hb,hl,rfl⟩))
 |ref _ _ _ _ b o cap cap' rows h hb hl hc ld=>exact .inr (.inr (.inr ⟨b,o,cap,cap',rows,h,hb,hl,hc,ld,rfl⟩))
def aA.RJ{os:List Ob}{w:World}{Z:Nat->Prop}{blk:ij}{cs:List AV}{cv:Value}(h:aA os w Z blk (.agg cs) cv):
  ∃ bz,cv=.agg bz/\bz.size=cs.length/\∀ j x,cs[j]?=some x->aA os w Z blk x (bz.getD j Go.undef):=by
 cases h with
 |cp _ _ h=>cases h
 |agg _ bz h1 h2=>exact⟨bz,rfl,h1,h2⟩
def aA.RK{os:List Ob}{w:World}{Z:Nat->Prop}{blk:ij}{cs:List AV}{cv:Value}(h:aA os w Z blk (.bH cs) cv):
  ∃ bz,cv=.tuple bz/\bz.size=cs.length/\∀ j x,cs[j]?=some x->aA os w Z blk x (bz.getD j Go.undef):=by
 cases h with
 |cp _ _ h=>cases h
 |bH _ bz h1 h2=>exact⟨bz,rfl,h1,h2⟩
def aA.RV{os:List Ob}{w:World}{Z:Nat->Prop}{blk:ij}{f:FuncId}{cs:List AV}{cv:Value}(h:aA os w Z blk (.fn f cs) cv):
  ∃ bz,cv=.func (.func f) #[] bz/\bz.size=cs.length/\∀ j x,cs[j]?=some x->aA os w Z blk x (bz.getD j Go.undef):=by
 cases h with
 |cp _ _ h=>cases h
 |fn _ _ bz h1 h2=>exact⟨bz,rfl,h1,h2⟩
def aA.RW{os:List Ob}{w:World}{Z:Nat->Prop}{blk:ij}{t:TypeId}{v:AV}{cv:Value}(h:aA os w Z blk (.ja t v) cv):∃x,cv=.iface t x/\aA os w Z blk v x:=by
 cases h with
 |cp _ _ h=>cases h
 |ja _ _ x h=>exact⟨x,rfl,h⟩
def gk.inv{w:World}{Z:Nat->Prop}{sz:Nat}{rows:List (List AV)}{cv:Value}(h:gk w Z (.tree sz rows) cv):
  (∃ a cap,rows=[]/\cv=.slice a 0 cap)\/∃ b o cap,∃ f:Nat->Nat->Value,cv=.slice (some ⟨b,o,none⟩) rows.length cap/\Z b/\(∀ row∈rows,row.length=sz)/\rows.length<=cap /\
   (∀ r c x,cellAt rows r c=some x->w.cell? ⟨b,o+(r*sz+c),none⟩=some (f r c))/\∀ r c x,cellAt rows r c=some x->gk w Z x (f r c):=by
 cases h with
 |nil _ cap a=>exact .inl ⟨a,cap,rfl,rfl⟩
 |tree _ _ b o cap f h1 h2 h3 h4 h5=>exact .inr ⟨b,o,cap,f,rfl,h1,h2,h3,h4,h5⟩
def gk.sub{w:World}{Z:Nat->Prop}{sz:Nat}{rows:List (List AV)}{b o cap cap':Nat}{f:Nat->Nat->Value}(hz:Z b)(hr:∀ row∈rows,row.length=sz)(hc:∀ r c x,cellAt rows r c=some x->w.cell? ⟨b,o+(r*sz+c),none⟩=some (f r c))(ht:∀ r c x,cellAt rows r c=some x->gk w Z x (f r c))(lo n:Nat)(hn:n<=cap')(_hcap:rows.length<=cap)(jG:lo+n<=rows.length):
  gk w Z (.tree sz ((rows.drop lo).take n)) (.slice (some ⟨b,o+lo*sz,none⟩) n cap'):=by
 have hlen:((rows.drop lo).take n).length=n:=PX;have tx:∀ r c x,cellAt ((rows.drop lo).take n) r c=some x->cellAt rows (lo+r) c=some x:=by
  intro r c x hx;simp only[cellAt,vS,oL]at hx;split at hx
  ·exact hx
  ·simp at hx
 have:=gk.tree (w:=w) (Z:=Z) sz ((rows.drop lo).take n) b (o+lo*sz) cap' (λr c=>f (lo+r) c) hz (λrow h=>hr row (List.mem_of_mem_drop (List.mem_of_mem_take h))) G3
  (λr c x hx=>by
   have h1:=hc _ _ _ (tx r c x hx);rw[gj]at h1;have e:o+(lo*sz+r*sz+c)=o+lo*sz+(r*sz+c):=G3;rw[e]at h1;exact h1) (λr c x hx=>ht _ _ _ (tx r c x hx))
 rw[hlen]at this;exact this
def HK{o:Oper}{σ:St}{γ:Cx}{a:Act}{K:St->Prop}(h:bC σ γ)(ha:γ.tmps=a.tmps)(hd:∀ d,o.dst=some d->d<a.tmps.size){ob:Ob}{cur:Array Value}{t:TypeId}{cap:Nat}(a8:uY σ.aa γ.w γ.Z γ.blk 0 cap cur ob){v:AV}{cv:Value}(hv:aA (σ.aa++[ob]) (γ.w.alloc (.cells cur t)) γ.Z (dM γ.blk σ.aa.length (some (γ.w.heap.size,0,cap))) v cv)(hK:K (({ σ with aa:=σ.aa++[ob] }:St).put o.dst v)){r:Result Next}(hr:r=.ok (.value cv) (γ.w.alloc (.cells cur t))):Ax o σ γ a K r :=
 Ch (σ1:={ σ with aa:=σ.aa++[ob] }) (γ1:={ γ with w:=γ.w.alloc (.cells cur t),blk:=dM γ.blk σ.aa.length (some (γ.w.heap.size,0,cap)) })
  (Fr.push (t:=t) (cur:=cur) ob rfl rfl rfl rfl) (h.push (t:=t) (cur:=cur) rfl a8) ha hd hv hK hr
def tM(ents:List (Value×Value)):(dy ents).toList=ents.mapIdx λi p=>(⟨p.1,p.2,i⟩:MapEntry):=by simp[dy]
def Lw(L:List (Value×Value))(p:Value×Value):(dy L).push ⟨p.1,p.2,L.length⟩=dy (L++[p]):=by
 apply Array.toList_inj.1;rw[Array.toList_push,tM,tM,List.mapIdx_append];simp
def HL(L:List (Value×Value))(i:Nat)(f:MapEntry->MapEntry)(p:Value×Value)(hf:∀ q,L[i]?=some q->f ⟨q.1,q.2,i⟩=⟨p.1,p.2,i⟩):(dy L).modify i f=dy (L.set i p):=by
 apply Array.ext_getElem?;intro j;rw[Array.getElem?_modify];simp only[dy,List.getElem?_toArray,List.getElem?_mapIdx,cm];by_cases h:i=j
 ·subst h;rw[if_pos rfl,if_pos rfl];cases hq:L[i]? with
  |none =>
   have:¬ i<L.length:=by
    have:=List.getElem?_eq_none_iff.1 hq;omega
   simp[this]
  |some q =>
   have:i<L.length:=(aY.1 hq).1;simp[this,hf q hq]
 ·rw[if_neg h,if_neg h]
def rK(ag:Nat)(f:Nat->Value)(L:List (List Int×AV)):(dR ag f L).length=L.length:=by unfold dR;simp
def uZ(ag:Nat)(f:Nat->Value)(L:List (List Int×AV))(j:Nat):(dR ag f L)[j]?=(L[j]?).map λp=>(kV ag p.1,f j):=by unfold dR;simp
def Ay{l:List Int}:∀ {L:List (List Int×AV)} {i j:Nat},kM l L i=some j->i<=j/\∃ v,L[j-i]?=some (l,v)
 |[],_,_,h=>by cases h
 |p::r,i,j,h=>by
  rw[kM]at h;split at h
  ·rename_i hp;cases h;exact⟨aR _,p.2,by rw[jv];simp[<- hp]⟩
  ·obtain⟨h1,v,h2⟩:=Ay h;have e:j-i=(j-(i+1))+1:=G3;exact⟨G3,v,by rw[e,List.getElem?_cons_succ];exact h2⟩
def Em{σ:St}{γ:Cx}(h:bC σ γ){v:AV}{cv:Value}(hv:aA σ.aa γ.w γ.Z γ.blk v cv){id ag:Nat}{L:List (List Int×AV)}(hm:mU σ v=some (id,ag,L)):
  v=.g6 id/\σ.aa[id]?=some (.mp ag L)/\∃ b,∃ f:Nat->Value,γ.blk id=some (b,0,0)/\cv=.map (some b)/\γ.w.heap[b]?=some (.map (dy (dR ag f L)) L.length)/\(∀ p∈L,p.1.length=lg ag)/\∀ (j:Nat) p,L[j]?=some p->aA σ.aa γ.w γ.Z γ.blk p.2 (f j):=by
 unfold mU at hm;split at hm
 ·rename_i pL;split at hm
  ·rename_i jx L' ho;simp only[dD.injEq,Prod.mk.injEq]at hm;obtain⟨rfl,rfl,rfl⟩:=hm;obtain⟨b,f,h1,h2,h3,h4⟩:=h.fF _ _ ho;cases hv with
   |cp _ _ h=>cases h
   |rG _ _ h' _=>rw[ho]at h';simp at h'
   |g6 _ b' _ _ h' hb =>
    rw[h1]at hb;simp only[dD.injEq,Prod.mk.injEq,and_true]at hb;subst hb;exact⟨rfl,ho,b,f,h1,rfl,h2,h3,h4⟩
  ·cases hm
 ·cases hm
def Lx{os:List Ob}{w:World}{Z:Nat->Prop}{blk:ij}{v:AV}{cv:Value}(hv:aA os w Z blk v cv){ag:Nat}{l:List Int}(hk:keyOf v=some (ag,l))(hl:l.length=lg ag):cv=kV ag l:=by
 unfold keyOf at hk;split at hk
 ·simp only[dD.injEq,Prod.mk.injEq]at hk;obtain⟨rfl,rfl⟩:=hk;rw[hv.dm];rfl
 ·rename_i cs;cases hi:qm cs with
  |none=>simp[hi]at hk
  |some as =>
   simp only[hi,fE,dD.injEq,Prod.mk.injEq]at hk;obtain⟨rfl,rfl⟩:=hk;have:=Ly hv hi;rw[this];unfold lg at hl;unfold kV;by_cases h0:as.length=0
   ·rw[if_pos h0]at hl;omega
   ·rw[if_neg h0]
 ·cases hk
def aez{t:TypeId}{ag:Nat}(u3:mV P t ag){z:Value}{w:World}(hz:∀ kt et,P.underlying t=some (.map kt et)->(zeroValue et).run P w=.ok z w){b:Nat}{f:Nat->Value}{L:List (List Int×AV)}(hb:w.heap[b]?=some (.map (dy (dR ag f L)) L.length))(hL:∀ p∈L,p.1.length=lg ag){l:List Int}(hl:l.length=lg ag):
  (Instr.lookup t (.map (some b)) (kV ag l) false).run P w=.ok (((kM l L 0).map f).getD z) w:=by
 obtain⟨kt,et,ht,hk⟩:=u3;obtain⟨h1,h2,h3⟩:=hk l hl;simp only[Instr.lookup,Sem.run_bind,run_underlying ht,MapKept.run_getObj_map hb,h1,h3 f L w hL,Result.andThen_ok,Sem.run_pure];cases h:kM l L 0 with
 |none=>simp[hz kt et ht]
 |some q=>simp
def aeA{t:TypeId}{ag:Nat}(u3:mV P t ag){w:World}{b:Nat}{f:Nat->Value}{L:List (List Int×AV)}(hb:w.heap[b]?=some (.map (dy (dR ag f L)) L.length))(hL:∀ p∈L,p.1.length=lg ag){l:List Int}(hl:l.length=lg ag)(v:AV)(cv:Value):
  ∃ f':Nat->Value,(Instr.mapUpdate t (.map (some b)) (kV ag l) cv).run P w=.ok () { w with heap:=w.heap.setIfInBounds b (.map (dy (dR ag f' (gX l v L))) (gX l v L).length) } /\
   (∀ p∈gX l v L,p.1.length=lg ag)/\∀ (j:Nat) p,(gX l v L)[j]?=some p->(p.2=v/\f' j=cv)\/(L[j]?=some p/\f' j=f j):=by
 obtain⟨kt,et,ht,hk⟩:=u3;obtain⟨h1,h2,h3⟩:=hk l hl;simp only[Instr.mapUpdate,Sem.run_bind,run_underlying ht,MapKept.run_getObj_map hb,h1,h3 f L w hL,Result.andThen_ok];unfold gX;cases h:kM l L 0 with
 |none =>
  refine⟨λj=>if j=L.length then cv else f j,?_,λp hp=>?_,λj p hp=>?_⟩
  ·have e:=Lw (dR ag f L) (kV ag l,cv);rw[rK]at e;have e2:dR ag f L++[(kV ag l,cv)]=dR ag (λj=>if j=L.length then cv else f j) (L++[(l,v)]):=by
    unfold dR;rw[List.mapIdx_append];congr 1
    ·apply PS
     ·simp
     ·intro j h5 h6;have:j<L.length:=by simpa using h5
      simp[oO this]
    ·simp
   simp only[oN,MapKept.run_setObj_map _ hb,e,e2,bQ,rj]
  ·rcases cz.1 hp with hp|hp
   ·exact hL p hp
   ·rw[ec.1 hp];exact hl
  ·rcases fN j L.length with hj|hj
   ·rw[dg hj]at hp;exact .inr ⟨hp,by dsimp only;rw[if_neg G3]⟩
   ·rw[fO hj]at hp;have:j=L.length:=by
     have:=(aY.1 hp).1;simp at this;omega
    subst this;simp only[jv,vP,dD.injEq]at hp;subst hp;exact .inl ⟨rfl,by dsimp only;rw[if_pos rfl]⟩
 |some q =>
  obtain⟨_,u,hu⟩:=Ay h;rw[yN]at hu;have hq:=(aY.1 hu).1;refine⟨λj=>if j=q then cv else f j,?_,λp hp=>?_,λj p hp=>?_⟩
  ·have En:(((dy (dR ag f L))[q]?).map (·.key)).getD (kV ag l)=kV ag l:=by
    simp[dy,uZ,hu]
   have e:=HL (dR ag f L) q (λe=>{ e with key:=kV ag l,val:=cv }) (kV ag l,cv) (λ_ _=>rfl);have e2:(dR ag f L).set q (kV ag l,cv)=dR ag (λj=>if j=q then cv else f j) (L.set q (l,v)):=by
    apply jR;intro j;rw[cm,uZ,uZ,cm,rK];by_cases hj:q=j
    ·subst hj;simp[hq]
    ·rw[if_neg hj,if_neg hj,if_neg (Ne.symm hj)]
   simp only[fE,En,h2,Result.andThen_ok,MapKept.run_setObj_map _ hb,Sem.run_bind];rw[e,e2,bw]
  ·rcases oP hp with hp|hp
   ·exact hL p hp
   ·rw[hp];exact hl
  ·simp only[cm]at hp;by_cases hj:q=j
   ·subst hj;rw[if_pos rfl,if_pos hq]at hp;cases hp;exact .inl ⟨rfl,by dsimp only;rw[if_pos rfl]⟩
   ·rw[if_neg hj]at hp;exact .inr ⟨hp,by dsimp only;rw[if_neg (Ne.symm hj)]⟩
def bC.wrR{σ:St}{γ:Cx}(h:bC σ γ){id:Nat}{ob ob':Ob}(ho:σ.aa[id]?=some ob)(hg:ob≠.gone)(g9:ob.fj ob'){b o cap:Nat}(hb:γ.blk id=some (b,o,cap)){w':World}(pQ:∀ k,k≠b->w'.heap[k]?=γ.w.heap[k]?):∀ v cv,aA σ.aa γ.w γ.Z γ.blk v cv->aA (σ.aa.set id ob') w' γ.Z γ.blk v cv:=by
 have cT:id<σ.aa.length:=(aY.1 ho).1;have qz:Live σ.aa id:=⟨ob,ho,hg⟩;exact λv cv hv =>
  hv.mono (λz hz=>⟨hz,pQ z (λe=>h.nz b ⟨id,o,cap,qz,hb⟩ (e▸hz))⟩) (λi x hx=>by
   rw[cm];by_cases oo:id=i
   ·subst oo;rw[ho]at hx;simp at hx;subst hx;right;refine⟨rfl,ob',by simp[cT],g9⟩
   ·rw[if_neg oo];by_cases bE:x=.gone
    ·subst bE;exact .inl hx
    ·exact .inr ⟨rfl,x,hx,Ob.kK bE⟩)
def aeC{t:TypeId}{ag:Nat}(u3:mV P t ag){z:Value}{w:World}(hz:∀ kt et,P.underlying t=some (.map kt et)->(zeroValue et).run P w=.ok z w){b:Nat}{f:Nat->Value}{L:List (List Int×AV)}(hb:w.heap[b]?=some (.map (dy (dR ag f L)) L.length))(hL:∀ p∈L,p.1.length=lg ag){l:List Int}(hl:l.length=lg ag):
  ∃ f':Nat->Value,(Instr.mapEntry t (.map (some b)) (kV ag l)).run P w=.ok (.tuple #[((kM l L 0).map f).getD z,.int .i64 (B5 l L:Nat)]) { w with heap:=w.heap.setIfInBounds b (.map (dy (dR ag f' (gX l ((pE l L).getD (.lit z)) L))) (gX l ((pE l L).getD (.lit z)) L).length) } /\
   (∀ p∈gX l ((pE l L).getD (.lit z)) L,p.1.length=lg ag)/\∀ (j:Nat) p,(gX l ((pE l L).getD (.lit z)) L)[j]?=some p->(p.2=(pE l L).getD (.lit z)/\f' j=((kM l L 0).map f).getD z)\/(L[j]?=some p/\f' j=f j):=by
 obtain⟨kt,et,ht,hk⟩:=u3;obtain⟨h1,h2,h3⟩:=hk l hl;generalize hv:(pE l L).getD (.lit z)=v;simp only[Instr.mapEntry,Sem.run_bind,run_underlying ht,MapKept.run_getObj_map hb,h1,h3 f L w hL,Result.andThen_ok];unfold gX B5;cases h:kM l L 0 with
 |none =>
  refine⟨λj=>if j=L.length then z else f j,?_,λp hp=>?_,λj p hp=>?_⟩
  ·have e:=Lw (dR ag f L) (kV ag l,z);rw[rK]at e;have e2:dR ag f L++[(kV ag l,z)]=dR ag (λj=>if j=L.length then z else f j) (L++[(l,v)]):=by
    unfold dR;rw[List.mapIdx_append];congr 1
    ·apply PS
     ·simp
     ·intro j h5 h6;have:j<L.length:=by simpa using h5
      simp[oO this]
    ·simp
   simp only[oN,hz kt et ht,Result.andThen_ok,MapKept.run_setObj_map _ hb,Sem.run_bind,e,e2,bQ,rj,Sem.run_pure,Option.getD_none,goInt]
  ·rcases cz.1 hp with hp|hp
   ·exact hL p hp
   ·rw[ec.1 hp];exact hl
  ·rcases fN j L.length with hj|hj
   ·rw[dg hj]at hp;exact .inr ⟨hp,by dsimp only;rw[if_neg G3]⟩
   ·rw[fO hj]at hp;have:j=L.length:=by
     have:=(aY.1 hp).1;simp at this;omega
    subst this;simp only[jv,vP,dD.injEq]at hp;subst hp;exact .inl ⟨rfl,by dsimp only;rw[if_pos rfl];rfl⟩
 |some q =>
  obtain⟨_,u,hu⟩:=Ay h;rw[yN]at hu;have hq:=(aY.1 hu).1;refine⟨f,?_,λp hp=>?_,λj p hp=>?_⟩
  ·have En:(((dy (dR ag f L))[q]?).map (·.key)).getD (kV ag l)=kV ag l:=by
    simp[dy,uZ,hu]
   have aeD:(((dy (dR ag f L))[q]?).map (λe=>(e.born:Int))).getD 0=(q:Int):=by
    simp[dy,uZ,hu]
   have e:=HL (dR ag f L) q (λe=>{ e with key:=kV ag l }) (kV ag l,f q) (λx hx=>by
    rw[uZ,hu]at hx;cases hx;rfl)
   have e2:(dR ag f L).set q (kV ag l,f q)=dR ag f (L.set q (l,v)):=by
    apply jR;intro j;rw[cm,uZ,uZ,cm,rK];by_cases hj:q=j
    ·subst hj;simp[hq]
    ·rw[if_neg hj,if_neg hj]
   simp only[fE,En,h2,Result.andThen_ok,MapKept.run_setObj_map _ hb,Sem.run_bind,Sem.run_pure,aeD,k9,goInt];rw[e,e2,bw]
  ·rcases oP hp with hp|hp
   ·exact hL p hp
   ·rw[hp];exact hl
  ·simp only[cm]at hp;by_cases hj:q=j
   ·subst hj;rw[if_pos rfl,if_pos hq]at hp;cases hp;exact .inl ⟨rfl,rfl⟩
   ·rw[if_neg hj]at hp;exact .inr ⟨hp,rfl⟩
def aeE(ents:List (Value×Value)){n:Nat}(hn:n<ents.length):(dy ents).findIdx? (λe=>(e.born:Int)==(n:Int))=some n:=by
 unfold dy;rw[List.findIdx?_toArray,List.findIdx?_eq_some_iff_getElem];refine⟨by simpa using hn,G9,λj hj=>?_⟩;simp only[List.getElem_mapIdx];simp;omega
def aeF{t:TypeId}{ag:Nat}{w:World}{b:Nat}{f:Nat->Value}{L:List (List Int×AV)}(hb:w.heap[b]?=some (.map (dy (dR ag f L)) L.length)){n:Nat}(hn:n<L.length)(v:AV)(cv:Value):
  (Instr.entryStore t (.map (some b)) (.int .i64 (n:Nat)) cv).run P w=.ok () { w with heap:=w.heap.setIfInBounds b (.map (dy (dR ag (λj=>if j=n then cv else f j) (rA n v L))) (rA n v L).length) }:=by
 have hf:=aeE (dR ag f L) (n:=n) (by rw[rK];exact hn);have e:=HL (dR ag f L) n (λe=>{ e with val:=cv }) (kV ag (L.getD n ([],.undef)).1,cv) (λx hx=>by
  rw[uZ,bT hn]at hx;cases hx;rw[aG,bT hn];rfl)
 have e2:(dR ag f L).set n (kV ag (L.getD n ([],.undef)).1,cv)=dR ag (λj=>if j=n then cv else f j) (rA n v L):=by
  unfold rA;apply jR;intro j;rw[cm,uZ,uZ,cm,rK];by_cases hj:n=j
  ·subst hj;simp[hn]
  ·rw[if_neg hj,if_neg hj,if_neg (Ne.symm hj)]
 simp only[Instr.entryStore,Sem.run_bind,MapKept.run_getObj_map hb,asInt,asIntOf,Sem.run_pure,Result.andThen_ok,hf,MapKept.run_setObj_map _ hb];rw[e,e2];simp[rA]
def Lz{P:Program}{t:TypeId}(h:(ty P t).kind=8):∃kt,P.underlying t=some (.map kt (ty P t).elem):=by
 unfold ty at h ⊢;cases hi:P.info? t<;>cases hd:P.underlying t<;>simp[hi,hd]at h ⊢;rename_i i d;cases d<;>simp at h ⊢
def aee{o:Oper}{σ:St}{K:St->Prop}(hW:cE P o σ K){γ:Cx}(h:bC σ γ){a:Act}(ha:γ.tmps=a.tmps)(hd:∀ d,o.dst=some d->d<a.tmps.size):
  Ax o σ γ a K ((execOp a.eval o).run P γ.w):=by
 obtain⟨dst,op,type,pos,after,guard⟩:=o;unfold cE at hW;have E:=λx=>tK h ha x;cases op
 case move x=>exact dW h ha hd (E x) hW (by simp[execOp])
 case assign x=>exact dW h ha hd (E x) hW (by simp[execOp])
 case pick c x y =>
  simp only at hW;have hc:=E c;split at hW
  ·rename_i t he;rw[he]at hc;have bu:=hc.dm;refine dW h ha hd (v:=gW t (ev σ x) (ev σ y)) (cv:=if t then a.eval x else a.eval y) ?_ hW (by simp[execOp,bu,asBool]);unfold gW;split
   ·rename_i x' y' h1 h2;have hx:=E x;have hy:=E y;rw[h1]at hx;rw[h2]at hy;rw[hx.dm,hy.dm];cases t<;>exact .lit _
   ·cases t
    ·exact E y
    ·exact E x
  ·exact hW.elim
 case alloc e =>
  simp only at hW;obtain⟨aL,hW⟩:=hW;split at hW
  ·rename_i z hz;obtain⟨v,hv,hvc⟩:=RZ aL hz γ.w;obtain⟨l1,l2⟩:=LA (os:=σ.aa) (w:=γ.w) (Z:=γ.Z) (blk:=γ.blk) z;refine HK (ob:=.var (z.map .lit)) (v:=.ptr σ.aa.length 0 0) (cv:=.pointer (some ⟨γ.w.heap.size,0,none⟩)) (cap:=0) (cur:=z.toArray) (t:=e) h ha hd ⟨rfl,G9,l2⟩ ?_ hW ?_
   ·exact .oS _ 0 _ 0 _ (G7 ..) (by simp[dM])
   ·simp[execOp,Instr.alloc,hv,newVar,newRow,hvc]
  ·exact hW.elim
 case box e x =>
  simp only at hW;obtain⟨hs,hK⟩:=hW;obtain⟨c1,c2,c3⟩:=LB (E x) hs;refine HK (ob:=.var (cellsOf (ev σ x))) (cv:=.pointer (some ⟨γ.w.heap.size,0,none⟩)) (cap:=0) (cur:=(a.eval x).cells) (t:=e) h ha hd ⟨rfl,c1,c2⟩ ?_ hK ?_
  ·exact .oS _ 0 _ 0 _ (G7 ..) (by simp[dM])
  ·simp[execOp,Instr.box,newVar,newRow]
 case build t parts =>
  simp only at hW;split at hW
  ·rename_i z hk hz;split at hW
   ·rename_i cs hf;obtain⟨⟨hs,hp⟩,hK⟩:=hW;obtain⟨cur,h1,h2⟩:=aeH h ha hk hz hf hs hp;exact dW h ha hd h2 hK (by simp only[execOp,Sem.run_bind,h1,Result.andThen_ok,Sem.run_pure])
   ·exact hW.elim
  ·rename_i z hk hz;split at hW
   ·rename_i cs hf;obtain⟨⟨hs,hp⟩,hK⟩:=hW;obtain⟨cur,h1,h2⟩:=aeI h ha hk hz hf hs hp;exact dW h ha hd h2 hK (by simp only[execOp,Sem.run_bind,h1,Result.andThen_ok,Sem.run_pure])
   ·exact hW.elim
  ·exact hW.elim
 case buildSlice t len parts =>
  simp only at hW;split at hW
  ·rename_i z hk hz;split at hW
   ·rename_i cs hf;obtain⟨⟨eP,h0,ou,aeJ,hs⟩,hK⟩:=hW;have ht:=u4 hk;obtain⟨i,d,hi,HM,u5,_,hzero⟩:=tA eP;obtain⟨zv,hzr,jU⟩:=RZ eP hz γ.w;have HN:0<z.length:=by rw[ou];exact h0
    obtain⟨hl,hr⟩:=LC h ha parts;obtain⟨cur,f1,f2⟩:=HO (σ:=σ) (γ:=γ) _ _ _ _ cs hl hr (λp hp=>by
     simp only[List.mem_map]at hp;obtain⟨q,hq,rfl⟩:=hp;rw[List.all_eq_true]at hs;exact hs q hq) (LD z len (len*(ty P (ty P t).elem).size) (by rw[ou]) HN) hf
    have anH:cs.length=len*(ty P (ty P t).elem).size:=by
     have:=LD (os:=σ.aa) (w:=γ.w) (Z:=γ.Z) (blk:=γ.blk) z len (len*(ty P (ty P t).elem).size) (by rw[ou]) HN;have h1:∀ (parts:List (Nat×AV)) (cs sL:List AV) (place:Nat->Option (Nat×Nat)),nu place cs parts=some sL->sL.length=cs.length:=by
      intro parts
      induction parts with
      |nil=>intro cs sL place h;simp[nu]at h;rw[h]
      |cons p parts ih =>
       intro cs sL place h;obtain⟨i,v⟩:=p;simp only[nu]at h;split at h
       ·simp at h
       ·split at h
        ·rw[ih _ _ _ h,LF]
        ·simp at h
     rw[h1 _ _ _ _ hf,<- this.1];simp
    have hmul:len*(ty P (ty P t).elem).size<=16777216:=aeJ;have hlen:len<=maxLen:=by
     have:len*1<=len*(ty P (ty P t).elem).size:=Nat.mul_le_mul_left _ h0;unfold maxLen;omega
    have fP:(Instr.buildSlice t len (parts.map λ(i,x)=>(i,a.eval x))).run P γ.w=.ok (.slice (some ⟨γ.w.heap.size,0,none⟩) len len) (γ.w.alloc (.cells cur (ty P t).elem)):=by
     have kP:¬ (len*(ty P (ty P t).elem).size > 2^24):=G3;by_cases hl0:len*(ty P (ty P t).elem).size=0
     ·rw[hl0]at f1;have e0:((Ko 0).map λx=>(#[]:Array Value)[x%(#[]:Array Value).size]!)=((Ko 0).map (z.toArray[· % z.toArray.size]!)):=G9;simp only[Instr.buildSlice,Sem.run_bind,run_underlying ht,Result.andThen_ok,run_sizeOf eP,if_false,hl0,if_true,Sem.run_pure,Nat.not_lt_zero,gt_iff_lt];rw[e0,f1];simp[newRow]
     simp only[Instr.buildSlice,Sem.run_bind,run_underlying ht,Result.andThen_ok,run_sizeOf eP,kP,if_false,hl0,hzr,Sem.run_pure,jU];rw[show((Ko (len*(ty P (ty P t).elem).size)).map λx=>z.toArray[x%z.toArray.size]!)=((Ko (len*(ty P (ty P t).elem).size)).map (z.toArray[· % z.toArray.size]!)) from rfl,f1];simp[newRow]
    refine HK (ob:=.arr (ty P (ty P t).elem).size (nw (ty P (ty P t).elem).size len cs)) (cv:=.slice (some ⟨γ.w.heap.size,0,none⟩) len len) (cap:=len) (cur:=cur) (t:=(ty P t).elem) h ha hd ?_ ?_ hK ?_
    ·refine⟨h0,R0 _ _ _ G3,by rw[f2.1];omega,by rw[LH];omega,hlen,?_⟩;intro r c v hv;rw[gf];exact f2.2 _ _ (R3 _ _ _ _ _ _ hv)
    ·have:=aA.ref (os:=σ.aa++[.arr (ty P (ty P t).elem).size (nw (ty P (ty P t).elem).size len cs)]) (w:=γ.w.alloc (.cells cur (ty P t).elem)) (Z:=γ.Z) (blk:=dM γ.blk σ.aa.length (some (γ.w.heap.size,0,len)))
      σ.aa.length (ty P (ty P t).elem).size 0 len γ.w.heap.size 0 len len _ (by simp;rfl) (by simp[dM]) (by rw[LH];omega) G3 (aR _)
     simpa using this
    ·simp only[execOp,Sem.run_bind,fP,Result.andThen_ok,Sem.run_pure]
   ·exact hW.elim
  ·exact hW.elim
 case load t x =>
  simp only at hW;obtain⟨hk,hW⟩:=hW;have hx:=E x;split at hW
  ·rename_i id r c he;rw[he]at hx;split at hW
   ·rename_i row bj;obtain⟨v,qy,h1,h2,h3⟩:=Ll h hk hx bj hW;exact dW h ha hd h2 h3 (by simp only[execOp,Sem.run_bind,h1,Result.andThen_ok,Sem.run_pure])
   ·exact hW.elim
  ·rename_i cells he;rw[he]at hx;obtain⟨v,qy,h1,h2,h3⟩:=aeL h hk hx hW;exact dW h ha hd h2 h3 (by simp only[execOp,Sem.run_bind,h1,Result.andThen_ok,Sem.run_pure])
  ·exact hW.elim
 case store t x y =>
  simp only at hW;obtain⟨hk,hW⟩:=hW;have hx:=E x;split at hW
  ·rename_i id r c he;rw[he]at hx;split at hW
   ·rename_i row bj;obtain⟨hc,hK⟩:=hW;obtain⟨w',h1,h2,h3⟩:=aeM h hk hx bj (E y) hc;exact LI h3 h2 ha hd hK (by simp only[execOp,Sem.run_bind,h1,Result.andThen_ok,Sem.run_pure])
   ·exact hW.elim
  ·exact hW.elim
 case nilCheck x =>
  simp only at hW;have hx:=E x;split at hW
  ·rename_i id r c he;rw[he]at hx;cases ho:σ.aa[id]? with
   |none=>simp[ho]at hW
   |some ob =>
    have c9:ob≠.gone/\K (σ.put dst (.ptr id r c)):=by cases ob<;>simp[ho]at hW ⊢<;>exact hW
    have bu :∃ad,a.eval x=.pointer (some ad):=by
     rcases hx.Lt with h|⟨b,cap,cells,_,_,_,h⟩|⟨_,b,o,cap,rows,_,_,h⟩
     ·rw[ho]at h;simp at h;exact absurd h c9.1
     ·exact⟨_,h⟩
     ·exact⟨_,h⟩
    obtain⟨ad,bu⟩:=bu;exact dW h ha hd hx c9.2 (by simp[execOp,bu])
  ·rename_i cells he;rw[he]at hx;have bu :∃ad,a.eval x=.pointer (some ad):=by
    obtain⟨b,o,f,h,_⟩:=hx.Lu;exact⟨_,h⟩
   obtain⟨ad,bu⟩:=bu;exact dW h ha hd hx hW (by simp[execOp,bu])
  ·exact hW.elim
 case binOp op t x y yt =>
  simp only at hW;have hx:=E x;have hy:=E y;split at hW
  ·rename_i k p k' q he hf;rw[he]at hx;rw[hf]at hy;obtain⟨rfl,hW⟩:=hW;obtain⟨v,h1,h2⟩:=aeN (P:=P) hW t γ.w;refine dW h ha hd (.lit v) h2 ?_;simp[execOp,hx.dm,hy.dm,eqGuard,h1]
  ·rename_i p q he hf;rw[he]at hx;rw[hf]at hy;obtain⟨hk,hW⟩:=hW;have ht:=aeO hk;split at hW
   ·refine dW h ha hd (.lit _) hW ?_;simp[execOp,hx.dm,hy.dm,eqGuard,run_eql_bool γ.w t p q ht]
   ·refine dW h ha hd (.lit _) hW ?_;simp[execOp,hx.dm,hy.dm,eqGuard,run_neq_bool γ.w t p q ht,bne]
   ·exact hW.elim
  ·rename_i sz rows he hf;rw[he]at hx;rw[hf]at hy;obtain⟨⟨hk,hr⟩,hW⟩:=hW;have ht:=u4 hk;rcases hx.Aq.inv with⟨ad,cap,rfl,bu⟩|⟨b,o,cap,f,bu,_⟩
   ·exact absurd hr G9
   split at hW
   ·refine dW h ha hd (.lit _) hW ?_;simp[execOp,bu,hy.dm,eqGuard,aex γ.w t _ _ _ ht]
   ·refine dW h ha hd (.lit _) hW ?_;simp[execOp,bu,hy.dm,eqGuard,aey γ.w t _ _ _ ht]
   ·exact hW.elim
  ·rename_i ad n c he hf;rw[he]at hx;rw[hf]at hy;obtain⟨hk,hW⟩:=hW;have ht:=u4 hk;split at hW
   ·refine dW h ha hd (.lit _) hW ?_;simp[execOp,hx.dm,hy.dm,eqGuard,aev γ.w t _ _ _ _ ht]
   ·refine dW h ha hd (.lit _) hW ?_;simp[execOp,hx.dm,hy.dm,eqGuard,aew γ.w t _ _ _ _ ht]
   ·exact hW.elim
  ·rename_i cs ds he hf;rw[he]at hx;rw[hf]at hy;split at hW
   ·rename_i as bs Eo LJ;obtain⟨⟨hq,hlen,Ci⟩,hW⟩:=hW;have Ep:=Ly hx Eo;have Az:=Ly hy LJ;have heq:=hq γ.w as bs rfl hlen;split at hW
    ·refine dW h ha hd (.lit _) hW ?_;simp only[execOp,Ep,Az,Sem.run_bind,run_eqGuard_agg γ.w _ _ _ _ _ _ Ci,run_eql_struct,heq,Result.andThen_ok,Sem.run_pure]
    ·refine dW h ha hd (.lit _) hW ?_;simp only[execOp,Ep,Az,Sem.run_bind,run_eqGuard_agg γ.w _ _ _ _ _ _ Ci,run_neq_struct,heq,Result.andThen_ok,Sem.run_pure]
    ·exact hW.elim
   ·exact hW.elim
  ·exact hW.elim
 case unOp op t x =>
  simp only at hW;have hx:=E x;split at hW
  ·rename_i b he;rw[he]at hx;exact dW h ha hd (.lit _) hW (by simp[execOp,hx.dm,Op.unary])
  ·rename_i k n he;rw[he]at hx;unfold uM at hW;split at hW
   ·exact dW h ha hd (.lit _) hW (by simp[execOp,hx.dm,Op.unary,Op.intArith])
   ·exact dW h ha hd (.lit _) hW.2 (by simp[execOp,hx.dm,Op.unary,Op.intArith,y6 hW.1])
  ·exact hW.elim
 case makeMap t r =>
  simp only at hW;obtain⟨⟨rfl,hk⟩,hK⟩:=hW;refine Ch (σ1:={ σ with aa:=σ.aa++[.mp (D2 P t) []] }) (γ1:={ γ with w:=γ.w.alloc (.map #[] 0),blk:=dM γ.blk σ.aa.length (some (γ.w.heap.size,0,0)) })
   (Fr.Er (cap:=0) _ rfl rfl rfl rfl) (h.Er (cap:=0) rfl λos' w' kI hR hb hx=>⟨_,λ_=>Go.undef,hb,hx,G9,G9⟩) ha hd
   (v:=.g6 σ.aa.length) (cv:=.map (some γ.w.heap.size)) (.g6 _ _ _ _ (G7 ..) (by simp[dM])) hK ?_
  simp[execOp,Instr.makeMap,newObj,Sem.run]
 case lookup t x i ok =>
  simp only at hW;split at hW
  ·rename_i ag l id jx L z gI oY oZ;obtain⟨⟨u3,rfl,hl,Es,rfl⟩,hK⟩:=hW;obtain⟨kt,ht⟩:=Lz Es;obtain⟨_,ho,b,f,hb,bu,lp,hL,lq⟩:=Em h (E x) oY;have Et:=Lx (E i) gI hl;have hz:∀ Eu AA,P.underlying t=some (.map Eu AA)->(zeroValue AA).run P γ.w=.ok z γ.w:=by
    intro Eu AA h';rw[ht]at h';cases h';unfold zeroV at oZ;split at oZ
    ·rename_i ii hi;simp[zeroValue,typeInfo,hi,oZ]
    ·cases oZ
   have fP:=aez (P:=P) u3 hz lp hL hl;refine dW (cv:=((kM l L 0).map f).getD z) h ha hd ?_ hK (by simp only[execOp,bu,Et,Sem.run_bind,fP,Result.andThen_ok,Sem.run_pure]);unfold pE;cases hf:kM l L 0 with
   |none=>exact .lit z
   |some q =>
    obtain⟨_,u,hu⟩:=Ay hf;rw[yN]at hu;simp only[uG,hu,fE,k9];exact lq q _ hu
  ·exact hW.elim
 case mapUpdate t m k x =>
  simp only at hW;split at hW
  ·rename_i ag l id jx L gI oY;obtain⟨⟨u3,rfl,hl⟩,hK⟩:=hW;obtain⟨_,ho,b,f,hb,bu,lp,hL,lq⟩:=Em h (E m) oY;have Et:=Lx (E k) gI hl;obtain⟨f',fP,LK,iG⟩:=aeA (P:=P) u3 lp hL hl (ev σ x) (a.eval x);have lH:b<γ.w.heap.size:=(pB.1 lp).1;refine LI (σ1:={ σ with aa:=σ.aa.set id (.mp jx (gX l (ev σ x) L)) }) (γ1:={ γ with w:={ γ.w with heap:=γ.w.heap.setIfInBounds b (.map (dy (dR jx f' (gX l (ev σ x) L))) (gX l (ev σ x) L).length) } })
    (Fr.write (.mp jx (gX l (ev σ x) L)) ho G9 rfl hb (λk hk=>by simp[uI (Ne.symm hk)]) G9 rfl rfl rfl)
    (h.HP (ob':=.mp jx (gX l (ev σ x) L)) ho G9 rfl hb (λk hk=>by simp[uI (Ne.symm hk)]) G9 λos' hR=>⟨b,f',hb,by simp[lH],LK,λj p hp=>?_⟩) ha hd hK ?_
   ·rcases iG j p hp with⟨h1,h2⟩|⟨h1,h2⟩
    ·rw[h1,h2];exact hR _ _ (E x)
    ·rw[h2];exact hR _ _ (lq j p h1)
   ·simp only[execOp,bu,Et,Sem.run_bind,fP,Result.andThen_ok,Sem.run_pure]
  ·exact hW.elim
 case mapEntry t m k =>
  simp only at hW;split at hW
  ·rename_i ag l id jx L z gI oY oZ;obtain⟨⟨u3,rfl,hl,Es⟩,hK⟩:=hW;obtain⟨kt,ht⟩:=Lz Es;obtain⟨_,ho,b,f,hb,bu,lp,hL,lq⟩:=Em h (E m) oY;have Et:=Lx (E k) gI hl;have hz:∀ Eu AA,P.underlying t=some (.map Eu AA)->(zeroValue AA).run P γ.w=.ok z γ.w:=by
    intro Eu AA h';rw[ht]at h';cases h';unfold zeroV at oZ;split at oZ
    ·rename_i ii hi;simp[zeroValue,typeInfo,hi,oZ]
    ·cases oZ
   obtain⟨f',fP,LK,iG⟩:=aeC (P:=P) u3 hz lp hL hl;have lH:b<γ.w.heap.size:=(pB.1 lp).1;have hold:aA σ.aa γ.w γ.Z γ.blk ((pE l L).getD (.lit z)) (((kM l L 0).map f).getD z):=by
    unfold pE;cases hf:kM l L 0 with
    |none=>exact .lit z
    |some q =>
     obtain⟨_,u,hu⟩:=Ay hf;rw[yN]at hu;simp only[uG,hu,fE,k9];exact lq q _ hu
   generalize (pE l L).getD (.lit z)=v at *;generalize ((kM l L 0).map f).getD z=cv at *;have hR0:∀ x y,aA σ.aa γ.w γ.Z γ.blk x y->aA (σ.aa.set id (.mp jx (gX l v L))) { γ.w with heap:=γ.w.heap.setIfInBounds b (.map (dy (dR jx f' (gX l v L))) (gX l v L).length) } γ.Z γ.blk x y :=
    h.wrR (ob':=.mp jx (gX l v L)) ho G9 rfl hb (λk hk=>by simp[uI (Ne.symm hk)])
   refine Ch (σ1:={ σ with aa:=σ.aa.set id (.mp jx (gX l v L)) }) (γ1:={ γ with w:={ γ.w with heap:=γ.w.heap.setIfInBounds b (.map (dy (dR jx f' (gX l v L))) (gX l v L).length) } })
    (Fr.write (.mp jx (gX l v L)) ho G9 rfl hb (λk hk=>by simp[uI (Ne.symm hk)]) G9 rfl rfl rfl)
    (h.HP (ob':=.mp jx (gX l v L)) ho G9 rfl hb (λk hk=>by simp[uI (Ne.symm hk)]) G9 λos' hR=>⟨b,f',hb,by simp[lH],LK,λj p hp=>?_⟩) ha hd
    (v:=.bH [v,aaa (B5 l L:Nat)]) (cv:=.tuple #[cv,.int .i64 (B5 l L:Nat)]) (.bH _ _ rfl λj x hx=>?_) hK ?_
   ·rcases iG j p hp with⟨h1,h2⟩|⟨h1,h2⟩
    ·rw[h1,h2];exact hR _ _ hold
    ·rw[h2];exact hR _ _ (lq j p h1)
   ·match j,hx with
    |0,hx=>cases hx;exact hR0 _ _ hold
    |1,hx=>cases hx;exact .lit _
   ·simp only[execOp,bu,Et,Sem.run_bind,fP,Result.andThen_ok,Sem.run_pure]
  ·exact hW.elim
 case entryStore t m s x =>
  simp only at hW;split at hW
  ·rename_i n id ag L hs oY;obtain⟨⟨eA,eF⟩,hK⟩:=hW;obtain⟨_,ho,b,f,hb,bu,lp,hL,lq⟩:=Em h (E m) oY;have HQ:=E s;rw[hs]at HQ;have fA:=HQ.dm;have hn:n=((n.toNat:Nat):Int):=G3;have fP:=aeF (P:=P) (t:=t) lp (n:=n.toNat) G3 (ev σ x) (a.eval x);rw[<- hn]at fP;have lH:b<γ.w.heap.size:=(pB.1 lp).1;refine LI (σ1:={ σ with aa:=σ.aa.set id (.mp ag (rA n.toNat (ev σ x) L)) }) (γ1:={ γ with w:={ γ.w with heap:=γ.w.heap.setIfInBounds b (.map (dy (dR ag (λj=>if j=n.toNat then a.eval x else f j) (rA n.toNat (ev σ x) L))) (rA n.toNat (ev σ x) L).length) } })
    (Fr.write (.mp ag (rA n.toNat (ev σ x) L)) ho G9 rfl hb (λk hk=>by simp[uI (Ne.symm hk)]) G9 rfl rfl rfl)
    (h.HP (ob':=.mp ag (rA n.toNat (ev σ x) L)) ho G9 rfl hb (λk hk=>by simp[uI (Ne.symm hk)]) G9 λos' hR=>⟨b,λj=>if j=n.toNat then a.eval x else f j,hb,by simp only[Array.getElem?_setIfInBounds_self_of_lt lH],λp hp=>?_,λj p hp=>?_⟩) ha hd hK ?_
   ·unfold rA at hp;rcases oP hp with hp|hp
    ·exact hL p hp
    ·have nE:n.toNat<L.length:=G3;rw[hp,aG,bT nE];exact hL L[n.toNat] (List.getElem_mem nE)
   ·unfold rA at hp;simp only[cm]at hp;by_cases hj:n.toNat=j
    ·subst hj;rw[if_pos rfl,if_pos G3]at hp;cases hp;dsimp only;rw[if_pos rfl];exact hR _ _ (E x)
    ·rw[if_neg hj]at hp;dsimp only;rw[if_neg (Ne.symm hj)];exact hR _ _ (lq j p hp)
   ·simp only[execOp,bu,fA,Sem.run_bind,fP,Result.andThen_ok,Sem.run_pure]
  ·exact hW.elim
 case index t x i =>
  simp only at hW;split at hW
  ·rename_i s k n hs hi;obtain⟨⟨hu,eA,eF⟩,hK⟩:=hW;have hx:=E x;rw[hs]at hx;have hj:=E i;rw[hi]at hj;have bx:n.toNat<s.size:=G3;have hg:s[n.toNat]?=some s[n.toNat]:=by simp[bx]
   refine dW h ha hd (.lit _) hK ?_;simp only[execOp,hx.dm,hj.dm,Instr.index,asIntOf,Sem.run_bind,Sem.run_pure,Result.andThen_ok,run_underlying hu,if_pos eA,hg,KM]
  ·exact hW.elim
 case makeInterface t x =>
  simp only at hW;obtain⟨h1,hK⟩:=hW;refine dW h ha hd (v:=.ja t (ev σ x)) (cv:=.iface t (a.eval x)) (.ja _ _ _ (E x)) hK ?_;unfold Af at h1;cases hu:P.underlying t with
  |none=>simp[hu]at h1
  |some d=>cases d<;>simp[hu]at h1<;>simp[execOp,Instr.makeInterface,run_underlying hu]
 case typeAssert x xt asserted ok =>
  simp only at hW;have hx:=E x;split at hW
  ·rename_i t v he;rw[he]at hx;obtain⟨cx,hc,hv⟩:=hx.RW;obtain⟨⟨h1,rfl,rfl⟩,hK⟩:=hW;refine dW h ha hd hv hK ?_;unfold Af at h1;cases hu:P.underlying t with
   |none=>simp[hu]at h1
   |some d=>cases d<;>simp[hu]at h1<;>simp[execOp,hc,Instr.typeAssert,run_underlying hu]
  ·exact hW.elim
 case makeFunc fn first captured =>
  simp only at hW;split at hW
  ·rename_i f;obtain⟨hf,hK⟩:=hW;have hfe:first = #[]:=Array.eq_empty_of_size_eq_zero hf
   subst hfe;refine dW h ha hd (v:=.fn f (captured.toList.map (ev σ))) (cv:=.func (.func f) #[] (captured.map a.eval)) ?_ hK (by simp[execOp,Instr.makeFunc]);refine .fn _ _ _ G9 (λj x hj=>?_);simp only[b6]at hj;cases hc:captured.toList[j]? with
   |none=>simp[hc]at hj
   |some y =>
    simp[hc]at hj;subst hj;simp only[DK]at hc;simp[fU,hc];exact E y
  ·exact hW.elim
 case makeSlice t l c =>
  simp only at hW;have hl:=E l;have hc:=E c;split at hW
  ·rename_i z k n k' n' hk hz he hf;rw[he]at hl;rw[hf]at hc;obtain⟨⟨eP,h0,ou,rfl,eA,eF,Cj,_⟩,hK,_⟩:=hW;have ht:=u4 hk;obtain⟨i,d,hi,HM,u5,Ev,hzero⟩:=tA eP;obtain⟨zv,AB,jU⟩:∃zv,i.zero=some zv/\zv.cells=z.toArray:=by
    rw[hzero]at hz;cases hv:i.zero with
    |none=>simp[hv]at hz
    |some v=>simp[hv]at hz;exact⟨v,rfl,by rw[<- hz]⟩
   have hb:(i.bytes:Int)*n'<=281474976710656:=by
    have h1:(i.bytes:Int)<=128:=by rw[<- Ev];exact_mod_cast Cj
    have h2:(i.bytes:Int)*n'<=128*n':=Int.mul_le_mul_of_nonneg_right h1 eA;omega
   have hr:=run_make (P:=P) γ.w t _ i zv ht hi AB k k' n' n' eA (Int.le_refl _) hb G3;rw[<- u5,jU]at hr;have HN:0<z.length:=by rw[ou];exact h0
   obtain⟨z1,z2⟩:=LD (os:=σ.aa) (w:=γ.w) (Z:=γ.Z) (blk:=γ.blk) z n'.toNat (n'.toNat*(ty P (ty P t).elem).size) (by rw[ou]) HN;refine HK (ob:=.arr (ty P (ty P t).elem).size (bG n'.toNat (z.map .lit))) (cv:=.slice (some ⟨γ.w.heap.size,0,none⟩) n'.toNat n'.toNat) (cap:=n'.toNat) (cur:=madeCells z.toArray (n'.toNat*(ty P (ty P t).elem).size)) (t:=(ty P t).elem) h ha hd ?_ ?_ hK ?_
   ·refine⟨h0,?_,by rw[size_madeCells];omega,G9,by unfold maxLen;omega,?_⟩
    ·intro row bj;simp only[List.mem_replicate]at bj;rw[bj.2];simp[ou]
    ·intro r c v hv;rw[gf];have cZ:r<n'.toNat:=by
      simp only[cellAt,Option.bind_eq_some_iff]at hv;obtain⟨y,hy,_⟩:=hv;have:=(aY.1 hy).1;simpa using this
     simp only[cellAt,List.getElem?_replicate,cZ,if_true,uG]at hv;have bY:c<(ty P (ty P t).elem).size:=by
      have:=(aY.1 hv).1;simp at this;omega
     have bx:=Ar cZ bY;have hx:((aZ n'.toNat).flatMap λ_=>z.map AV.lit)[r*(ty P (ty P t).elem).size+c]?=some v:=by
      have key:∀ (m r:Nat),r<m->((aZ m).flatMap λ_=>z.map AV.lit)[r*z.length+c]?=(z.map AV.lit)[c]?:=by
       intro m;have hlen:∀ m,((aZ m).flatMap λ_=>z.map AV.lit).length=m*z.length:=by
        intro m
        induction m with
        |zero=>simp
        |succ m ih=>rw[xu,rn,bQ,ih];simp[gj]
       induction m with
       |zero=>intro r hr;omega
       |succ m ih =>
        intro r hr;rw[xu,rn];by_cases tN:r<m
        ·rw[dg (by rw[hlen,ou];exact Ar tN bY)];exact ih r tN
        ·have:r=m:=G3;subst this;rw[fO (by rw[hlen];omega),hlen];simp
      rw[<- ou,key _ _ cZ];exact hv
     exact z2 _ _ hx
   ·have:=aA.ref (os:=σ.aa++[.arr (ty P (ty P t).elem).size (bG n'.toNat (z.map .lit))]) (w:=γ.w.alloc (.cells (madeCells z.toArray (n'.toNat*(ty P (ty P t).elem).size)) (ty P t).elem)) (Z:=γ.Z) (blk:=dM γ.blk σ.aa.length (some (γ.w.heap.size,0,n'.toNat)))
     σ.aa.length (ty P (ty P t).elem).size 0 n'.toNat γ.w.heap.size 0 n'.toNat n'.toNat _ (G7 ..) (by simp[dM]) G9 G3 (aR _)
    simpa using this
   ·simp only[execOp,Sem.run_bind,hl.dm,hc.dm,hr,Result.andThen_ok,Sem.run_pure]
  ·exact hW.elim
 case fieldAddr s x f =>
  simp only at hW;have hx:=E x;split at hW
  ·rename_i off ft size hk fK;obtain⟨bg,hW⟩:=hW;obtain⟨fs,hu,xP⟩:=D1 hk;obtain⟨fd,HR,Ag,jW⟩:∃fd:Field,fs[f]?=some fd/\fd.offset=off/\vZ P fd.type=size:=by
    rw[xP]at fK;simp only[b6,DK]at fK;cases hg:fs[f]? with
    |none=>simp[hg]at fK
    |some fd=>simp[hg]at fK;exact⟨fd,rfl,fK.1,fK.2.2⟩
   have fP:∀ (b o:Nat),(Instr.fieldAt s (.pointer (some ⟨b,o,none⟩)) f).run P γ.w=.ok (.pointer (some ⟨b,o+off,none⟩)) γ.w:=by
    intro b o;have hso:(sizeOf fd.type).run P γ.w=.ok size γ.w:=by
     rw[<- jW];unfold vZ at jW ⊢;cases hi:P.info? fd.type with
     |none=>rw[hi]at jW;simp at jW;omega
     |some i=>simp[sizeOf,typeInfo,hi]
    have ew:¬ size=0:=G3;simp[Instr.fieldAt,run_underlying hu,HR,Instr.sureAddr,fieldPlace,hso,ew,Addr.sN,Ag]
   split at hW
   ·rename_i id r c he;rw[he]at hx;cases ho:σ.aa[id]? with
    |none=>simp[ho]at hW
    |some ob =>
     have c9:ob≠.gone/\K (σ.put dst (.ptr id r (c+off))):=by cases ob<;>simp[ho]at hW ⊢<;>exact hW
     rcases hx.Lt with hg|⟨b,cap,cells,h1,h2,rfl,bu⟩|⟨sz,b,o,cap,rows,h1,h2,bu⟩
     ·rw[ho]at hg;simp at hg;exact absurd hg c9.1
     ·exact dW h ha hd (.oS id (c+off) b cap cells h1 h2) c9.2 (by simp only[execOp,Sem.run_bind,bu,fP,Result.andThen_ok,Sem.run_pure])
     ·refine dW h ha hd (.pM id r (c+off) sz b o cap rows h1 h2) c9.2 ?_;simp only[execOp,Sem.run_bind,bu,fP,Result.andThen_ok,Sem.run_pure];simp[xw]
   ·rename_i cells he;rw[he]at hx;obtain⟨b,o,g,bu,h1,h2,h3⟩:=hx.Lu;refine dW h ha hd (.bm (cells.drop off) b (o+off) (λj=>g (off+j)) h1 ?_ ?_) hW ?_
    ·intro j x hj;rw[oL]at hj;have:=h2 _ _ hj;simpa [xw] using this
    ·intro j x hj;rw[oL]at hj;exact h3 _ _ hj
    ·simp only[execOp,Sem.run_bind,bu,fP,Result.andThen_ok,Sem.run_pure]
   ·exact hW.elim
  ·exact hW.elim
 case extract x i =>
  simp only at hW;have hx:=E x;split at hW
  ·rename_i vs he;rw[he]at hx;obtain⟨bz,bu,hs,hr⟩:=hx.RK;split at hW
   ·rename_i v hv;have hi:i<bz.size:=by rw[hs];exact(aY.1 hv).1
    refine dW h ha hd (hr i v hv) hW ?_;simp[execOp,bu,Instr.extract,hi,fU]
   ·exact hW.elim
  ·exact hW.elim
 case field s x f =>
  simp only at hW;have hx:=E x;split at hW
  ·rename_i off ft size hk fK;obtain⟨eP,u5,hW⟩:=hW;obtain⟨fs,hu,xP⟩:=D1 hk;obtain⟨fd,HR,Ag,jW⟩:∃fd:Field,fs[f]?=some fd/\fd.offset=off/\fd.type=ft:=by
    rw[xP]at fK;simp only[b6,DK]at fK;cases hg:fs[f]? with
    |none=>simp[hg]at fK
    |some fd=>simp[hg]at fK;exact⟨fd,rfl,fK.1,fK.2.1⟩
   subst Ag;subst jW;split at hW
   ·rename_i cs he;rw[he]at hx;obtain⟨bz,bu,hs,hr⟩:=hx.RJ;split at hW
    ·rename_i lI;refine dW h ha hd (v:=.agg ((cs.drop fd.offset).take size)) (cv:=.agg (bz.extract fd.offset (fd.offset+size))) ?_ hW.2 ?_
     ·have h1:=hW.1;refine .agg _ _ PX (λj y hj=>?_);have kL:j<size:=by have:=(aY.1 hj).1;simp at this;omega
      rw[vS,if_pos kL,oL]at hj;have:=hr _ _ hj;simp[fU,Array.getElem?_extract]at this ⊢;rw[if_pos G3];exact this
     ·simp[execOp,bu,Instr.field,run_underlying hu,HR,asAgg,part,LL eP,run_sizeOf eP,lI,u5]
    ·rename_i lI;split at hW
     ·rename_i v hv;have hi:fd.offset<bz.size:=by rw[hs];exact(aY.1 hv).1
      refine dW h ha hd (hr _ v hv) hW ?_;simp[execOp,bu,Instr.field,run_underlying hu,HR,asAgg,part,LL eP,lI,hi,fU]
     ·exact hW.elim
   ·exact hW.elim
  ·exact hW.elim
 case indexAddr t x i =>
  simp only at hW;have hx:=E x;have hi:=E i;split at hW
  ·rename_i id sz off len k n hk he hf;rw[he]at hx;rw[hf]at hi;split at hW
   ·rename_i dL rows ho;obtain⟨⟨rfl,bg,eP,h0,h1⟩,hK⟩:=hW;have ht:=u4 hk;rcases hx.Lv with hg|⟨_,_,_,rfl,_⟩|⟨rfl,_⟩|⟨b,o,cap,cap',iF,g1,g2,g3,g4,g5,bu⟩
    ·rw[ho]at hg;simp at hg
    ·omega
    ·omega
    ·refine dW h ha hd (.pM id (off+n.toNat) 0 _ b o cap iF g1 g2) hK ?_;have hc:0<=n/\n<(len:Int):=⟨h0,h1⟩;simp only[execOp,Sem.run_bind,Instr.indexAt,bu,hi.dm,asIntOf,Sem.run_pure,Result.andThen_ok,run_underlying ht,Sem.run_ite,hc,and_self,if_true,run_sizeOf eP,<- bg,Addr.sN];simp[gj,xw]
   ·exact hW.elim
  ·rename_i sz rows k n hk he hf;rw[he]at hx;rw[hf]at hi;obtain⟨⟨bg,eP,h0,h1⟩,hK⟩:=hW;have ht:=u4 hk;rcases hx.Aq.inv with⟨ad,cap,rfl,bu⟩|⟨b,o,cap,f,bu,g1,g2,g3,g4,g5⟩
   ·simp at h1;omega
   ·have hn:n.toNat<rows.length:=G3;refine dW h ha hd (.bm (rows.getD n.toNat []) b (o+n.toNat*sz) (λj=>f n.toNat j) g1 ?_ ?_) hK ?_
    ·intro j y hj;have:cellAt rows n.toNat j=some y:=by
      rw[aG]at hj;simp[hn]at hj;simp[cellAt,hn,hj]
     have:=g4 _ _ _ this;simpa [xw] using this
    ·intro j y hj;have:cellAt rows n.toNat j=some y:=by
      rw[aG]at hj;simp[hn]at hj;simp[cellAt,hn,hj]
     exact g5 _ _ _ this
    ·have hc:0<=n/\n<(rows.length:Int):=⟨h0,G3⟩;simp only[execOp,Sem.run_bind,Instr.indexAt,bu,hi.dm,asIntOf,Sem.run_pure,Result.andThen_ok,run_underlying ht,Sem.run_ite,hc,and_self,if_true,run_sizeOf eP,<- bg,Addr.sN]
  ·rename_i id r c k n hk he hf;rw[he]at hx;rw[hf]at hi;cases ho:σ.aa[id]? with
   |none=>simp[ho]at hW
   |some ob =>
    have c9:ob≠.gone/\((ty P (ty P t).elem).kind≠99/\0<=n/\n<(ty P t).len)/\K (σ.put dst (.ptr id r (c+n.toNat*(ty P (ty P t).elem).size))):=by cases ob<;>simp[ho]at hW ⊢<;>exact hW
    obtain⟨sO,⟨eP,h0,h1⟩,hK⟩:=c9;have ht:=LM hk;have hc:0<=n/\n<((ty P t).len:Int):=⟨h0,h1⟩;rcases hx.Lt with hg|⟨b,cap,cells,h1,h2,rfl,bu⟩|⟨sz,b,o,cap,rows,h1,h2,bu⟩
    ·rw[ho]at hg;simp at hg;exact absurd hg sO
    ·refine dW h ha hd (.oS id _ b cap cells h1 h2) hK ?_;simp only[execOp,Sem.run_bind,Instr.indexAt,bu,hi.dm,asIntOf,Sem.run_pure,Result.andThen_ok,run_underlying ht,Instr.sureAddr,Sem.run_ite,hc,and_self,if_true,run_sizeOf eP,Addr.sN]
    ·refine dW h ha hd (.pM id r _ sz b o cap rows h1 h2) hK ?_;simp only[execOp,Sem.run_bind,Instr.indexAt,bu,hi.dm,asIntOf,Sem.run_pure,Result.andThen_ok,run_underlying ht,Instr.sureAddr,Sem.run_ite,hc,and_self,if_true,run_sizeOf eP,Addr.sN];simp[xw]
  ·rename_i cells k n hk he hf;rw[he]at hx;rw[hf]at hi;obtain⟨⟨eP,h0,h1⟩,hK⟩:=hW;have ht:=LM hk;have hc:0<=n/\n<((ty P t).len:Int):=⟨h0,h1⟩;obtain⟨b,o,g,bu,g1,g2,g3⟩:=hx.Lu;refine dW h ha hd (.bm (cells.drop (n.toNat*(ty P (ty P t).elem).size)) b (o+n.toNat*(ty P (ty P t).elem).size) (λj=>g (n.toNat*(ty P (ty P t).elem).size+j)) g1 ?_ ?_) hK ?_
   ·intro j x hj;rw[oL]at hj;rw[xw];exact g2 _ _ hj
   ·intro j x hj;rw[oL]at hj;exact g3 _ _ hj
   ·simp only[execOp,Sem.run_bind,Instr.indexAt,bu,hi.dm,asIntOf,Sem.run_pure,Result.andThen_ok,run_underlying ht,Instr.sureAddr,Sem.run_ite,hc,and_self,if_true,run_sizeOf eP,Addr.sN]
  ·exact hW.elim
 case slice t x lo hi mx =>
  simp only at hW;obtain⟨hk,eP,rfl,hW⟩:=hW;have ht:=u4 hk;have hx:=E x;have fP:∀ (ad:Option Addr) (len cap l h:Nat) (lo hi:Option Value),(lo=none/\l=0\/∃ k,lo=some (.int k (l:Int)))->(hi=none/\h=len\/∃ k,hi=some (.int k (h:Int)))->l<=h->h<=cap ->
    (ty P (ty P t).elem).kind≠99->(Instr.sliceAt t (.slice ad len cap) lo hi none).run P γ.w=.ok (.slice (if cap=l then ad else ad.map (·.add (l*(ty P (ty P t).elem).size))) (h-l) (cap-l)) γ.w:=by
   intro ad len cap l h lo hi jG pR h1 h2 eP;have c1:(l:Int)<=h:=G3;have c2:(h:Int)<=cap:=G3;rcases jG with⟨rfl,rfl⟩|⟨k,rfl⟩<;>rcases pR with⟨rfl,rfl⟩|⟨k',rfl⟩ <;>
    simp[Instr.sliceAt,Instr.slice,Instr.sliceBounds,Instr.sliceBound,asIntOf,run_underlying ht,run_sizeOf eP,h1,h2]
  split at hW
  ·rename_i id sz off len he;rw[he]at hx;split at hW
   ·rename_i dL rows ho;obtain⟨rfl,bg,hW⟩:=hW;obtain⟨h0,cZ,_⟩:=h.fF _ _ ho;have key:∀ (l hh:Nat) (mq hi':Option Operand),(mq.map a.eval=none/\l=0\/∃ k,mq.map a.eval=some (.int k (l:Int)))->(hi'.map a.eval=none/\hh=len\/∃ k,hi'.map a.eval=some (.int k (hh:Int)))->l<=hh->hh<=len ->
      K (σ.put dst (.ref id dL (off+l) (hh-l)))->Ax ⟨dst,.slice t x mq hi' none,type,pos,after,guard⟩ σ γ a K ((execOp a.eval ⟨dst,.slice t x mq hi' none,type,pos,after,guard⟩).run P γ.w):=by
     intro l hh mq hi' jG pR h1 h2 hK;rcases hx.Lv with hg|⟨g1,g2,rfl,rfl,bu⟩|⟨rfl,b,xx,bo,iF,g1,g2,g3,bu⟩|⟨b,o,cap,cap',iF,g1,g2,g3,g4,g5,bu⟩
     ·rw[ho]at hg;simp at hg
     ·have:l=0:=G3;subst this;have:hh=0:=G3;subst this;refine dW (o:=⟨dst,.slice t x mq hi' none,type,pos,after,guard⟩) h ha hd (.nA id _ g1 g2) hK ?_;have:=fP none 0 0 0 0 _ _ jG pR G3 G3 eP;simp only[execOp,Sem.run_bind,bu,oN,this,Result.andThen_ok,Sem.run_pure];simp
     ·have:l=0:=G3;subst this;have:hh=0:=G3;subst this;refine dW (o:=⟨dst,.slice t x mq hi' none,type,pos,after,guard⟩) h ha hd (.oe id _ _ b xx bo iF g1 g2 G3) hK ?_;have:=fP (some ⟨b,xx,none⟩) 0 0 0 0 _ _ jG pR G3 G3 eP;simp only[execOp,Sem.run_bind,bu,oN,this,Result.andThen_ok,Sem.run_pure];simp
     ·have hr:=fP (some ⟨b,o+off*dL,none⟩) len cap' l hh _ _ jG pR h1 G3 eP;by_cases hm:cap'=l
      ·have e1:hh=l:=G3;subst e1;rw[if_pos hm]at hr;have e2:hh-hh=0:=G3;have e3:cap'-hh=0:=G3;rw[e2,e3]at hr;rw[e2]at hK;refine dW (o:=⟨dst,.slice t x mq hi' none,type,pos,after,guard⟩) h ha hd (.oe id _ _ b (o+off*dL) (o,cap) iF g1 g2 G3) hK ?_;simp only[execOp,Sem.run_bind,bu,oN,hr,Result.andThen_ok,Sem.run_pure]
      ·rw[if_neg hm]at hr;refine dW (o:=⟨dst,.slice t x mq hi' none,type,pos,after,guard⟩) h ha hd (.ref id _ (off+l) (hh-l) b o cap (cap'-l) iF g1 g2 G3 G3 G3) hK ?_;simp only[execOp,Sem.run_bind,bu,oN,hr,Result.andThen_ok,Sem.run_pure,fE,Addr.sN,<- bg];simp[gj,xw]
    split at hW
    ·rename_i e1 e2;have jG:lo=none:=by cases lo<;>simp at e1 ⊢
     have pR:hi=none:=by cases hi<;>simp at e2 ⊢
     subst jG;subst pR;exact key 0 len none none (.inl ⟨rfl,rfl⟩) (.inl ⟨rfl,rfl⟩) G3 (aR _) (by simpa using hW)
    ·rename_i k l e1 e2;have pR:hi=none:=by cases hi<;>simp at e2 ⊢
     subst pR;obtain⟨lo,rfl,f1⟩:∃y,lo=some y/\ev σ y=.lit (.int k l):=by cases lo<;>simp at e1 ⊢;exact e1
     obtain⟨⟨c1,c2,_⟩,hK⟩:=hW;have hl:=E lo;rw[f1]at hl;refine key l.toNat len (some lo) none (.inr ⟨k,?_⟩) (.inl ⟨rfl,rfl⟩) G3 (aR _) hK;simp[hl.dm];omega
    ·rename_i k hh e1 e2;have jG:lo=none:=by cases lo<;>simp at e1 ⊢
     subst jG;obtain⟨hi,rfl,f2⟩:∃y,hi=some y/\ev σ y=.lit (.int k hh):=by cases hi<;>simp at e2 ⊢;exact e2
     obtain⟨⟨c1,c2⟩,hK⟩:=hW;have hl:=E hi;rw[f2]at hl;refine key 0 hh.toNat none (some hi) (.inl ⟨rfl,rfl⟩) (.inr ⟨k,?_⟩) G3 G3 (by simpa using hK);simp[hl.dm];omega
    ·rename_i k l k' hh e1 e2;obtain⟨lo,rfl,f1⟩:∃y,lo=some y/\ev σ y=.lit (.int k l):=by cases lo<;>simp at e1 ⊢;exact e1
     obtain⟨hi,rfl,f2⟩:∃y,hi=some y/\ev σ y=.lit (.int k' hh):=by cases hi<;>simp at e2 ⊢;exact e2
     obtain⟨⟨c1,c2,c3⟩,hK⟩:=hW;have hl:=E lo;have Ew:=E hi;rw[f1]at hl;rw[f2]at Ew;refine key l.toNat hh.toNat (some lo) (some hi) (.inr ⟨k,?_⟩) (.inr ⟨k',?_⟩) G3 G3 hK
     ·simp[hl.dm];omega
     ·simp[Ew.dm];omega
    ·exact hW.elim
   ·exact hW.elim
  ·rename_i sz rows he;rw[he]at hx;obtain⟨bg,hW⟩:=hW;have key:∀ (l hh:Nat) (mq hi':Option Operand),(mq.map a.eval=none/\l=0\/∃ k,mq.map a.eval=some (.int k (l:Int)))->(hi'.map a.eval=none/\hh=rows.length\/∃ k,hi'.map a.eval=some (.int k (hh:Int)))->l<=hh->hh<=rows.length ->
     K (σ.put dst (.tree sz ((rows.drop l).take (hh-l))))->Ax ⟨dst,.slice t x mq hi' none,type,pos,after,guard⟩ σ γ a K ((execOp a.eval ⟨dst,.slice t x mq hi' none,type,pos,after,guard⟩).run P γ.w):=by
    intro l hh mq hi' jG pR h1 h2 hK;rcases hx.Aq.inv with⟨ad,cap,rfl,bu⟩|⟨b,o,cap,f,bu,g1,g2,g3,g4,g5⟩
    ·have e1:hh=0:=by simpa using h2
     subst e1;have e2:l=0:=G3;subst e2;have hr:=fP ad 0 cap 0 0 _ _ jG pR G3 G3 eP;refine dW (o:=⟨dst,.slice t x mq hi' none,type,pos,after,guard⟩) h ha hd (v:=.tree sz (([].drop 0).take (0-0))) (cv:=.slice (if cap=0 then ad else ad.map (·.add (0*(ty P (ty P t).elem).size))) (0-0) (cap-0)) (.cp _ _ (.nil sz (cap-0) _)) hK ?_;simp only[execOp,Sem.run_bind,bu,oN,hr,Result.andThen_ok,Sem.run_pure]
    ·have hr:=fP (some ⟨b,o,none⟩) rows.length cap l hh _ _ jG pR h1 G3 eP;by_cases pT:hh-l=0
     ·have e:(rows.drop l).take (hh-l)=[]:=by rw[pT];simp
      rw[e]at hK;rw[pT]at hr;refine dW (o:=⟨dst,.slice t x mq hi' none,type,pos,after,guard⟩) h ha hd (v:=.tree sz []) (cv:=.slice (if cap=l then some ⟨b,o,none⟩ else(some (⟨b,o,none⟩:Addr)).map (·.add (l*(ty P (ty P t).elem).size))) 0 (cap-l)) (.cp _ _ (.nil sz (cap-l) _)) hK ?_;simp only[execOp,Sem.run_bind,bu,oN,hr,Result.andThen_ok,Sem.run_pure]
     ·have ew:¬ cap=l:=G3;rw[if_neg ew]at hr;have aeS:rows≠[]:=by intro e;subst e;simp at h2;omega
      refine dW (o:=⟨dst,.slice t x mq hi' none,type,pos,after,guard⟩) h ha hd (.cp _ _ (gk.sub g1 g2 g4 g5 l (hh-l) (cap':=cap-l) G3 g3 G3)) hK ?_;simp only[execOp,Sem.run_bind,bu,oN,hr,Result.andThen_ok,Sem.run_pure,fE,Addr.sN,<- bg aeS]
   split at hW
   ·rename_i e1 e2;have jG:lo=none:=by cases lo<;>simp at e1 ⊢
    have pR:hi=none:=by cases hi<;>simp at e2 ⊢
    subst jG;subst pR;exact key 0 rows.length none none (.inl ⟨rfl,rfl⟩) (.inl ⟨rfl,rfl⟩) G3 (aR _) (by simpa using hW)
   ·rename_i k l e1 e2;have pR:hi=none:=by cases hi<;>simp at e2 ⊢
    subst pR;obtain⟨lo,rfl,f1⟩:∃y,lo=some y/\ev σ y=.lit (.int k l):=by cases lo<;>simp at e1 ⊢;exact e1
    obtain⟨⟨c1,c2⟩,hK⟩:=hW;have hl:=E lo;rw[f1]at hl;refine key l.toNat rows.length (some lo) none (.inr ⟨k,?_⟩) (.inl ⟨rfl,rfl⟩) G3 (aR _) ?_
    ·simp[hl.dm];omega
    ·have e:(rows.drop l.toNat).take (rows.length-l.toNat)=rows.drop l.toNat:=List.take_of_length_le G9;rw[e];exact hK
   ·rename_i k hh e1 e2;have jG:lo=none:=by cases lo<;>simp at e1 ⊢
    subst jG;obtain⟨hi,rfl,f2⟩:∃y,hi=some y/\ev σ y=.lit (.int k hh):=by cases hi<;>simp at e2 ⊢;exact e2
    obtain⟨⟨c1,c2⟩,hK⟩:=hW;have hl:=E hi;rw[f2]at hl;refine key 0 hh.toNat none (some hi) (.inl ⟨rfl,rfl⟩) (.inr ⟨k,?_⟩) G3 G3 (by simpa using hK);simp[hl.dm];omega
   ·rename_i k l k' hh e1 e2;obtain⟨lo,rfl,f1⟩:∃y,lo=some y/\ev σ y=.lit (.int k l):=by cases lo<;>simp at e1 ⊢;exact e1
    obtain⟨hi,rfl,f2⟩:∃y,hi=some y/\ev σ y=.lit (.int k' hh):=by cases hi<;>simp at e2 ⊢;exact e2
    obtain⟨⟨c1,c2,c3⟩,hK⟩:=hW;have hl:=E lo;have Ew:=E hi;rw[f1]at hl;rw[f2]at Ew;refine key l.toNat hh.toNat (some lo) (some hi) (.inr ⟨k,?_⟩) (.inr ⟨k',?_⟩) G3 G3 ?_
    ·simp[hl.dm];omega
    ·simp[Ew.dm];omega
    ·rw[<- List.drop_take];exact hK
   ·exact hW.elim
  ·exact hW.elim
 case call c =>
  obtain⟨callee,args,argTypes⟩:=c;have oQ:∀ l,args.toList=l->args=l.toArray:=by intro l h;rw[<- h]
  have HS:∀ l,argTypes.toList=l->argTypes=l.toArray:=by intro l h;rw[<- h]
  cases callee with
  |value f=>exact hW.elim
  |invoke r m=>exact hW.elim
  |builtin b =>
   cases b
   case len =>
    simp only at hW;split at hW
    ·rename_i x t cV kD;have ea:=oQ _ cV;have et:=HS _ kD;subst ea;subst et;have hx:=E x;have fP:(ty P t).kind=1->∀ ad n c,a.eval x=.slice ad n c->(execOp a.eval ⟨dst,.call ⟨.builtin .len,[x].toArray,[t].toArray⟩,type,pos,after,guard⟩).run P γ.w=.ok (.value (.int .i64 (n:Int))) γ.w:=by
      intro hk ad n c hc;have ht:=u4 hk;simp[execOp,resolve,invoke,builtin,Builtin.len_,run_underlying ht,hc,goInt]
     split at hW
     ·rename_i id sz off len he;rw[he]at hx;obtain⟨hk,hW⟩:=hW;split at hW
      ·rename_i dL rows ho;rcases hx.Lv with hg|⟨_,_,_,rfl,bu⟩|⟨rfl,_,_,_,_,_,_,_,bu⟩|⟨b,o,cap,cap',iF,g1,g2,g3,g4,g5,bu⟩
       ·rw[ho]at hg;simp at hg
       ·exact dW h ha hd (.lit _) hW.2 (fP hk _ _ _ bu)
       ·exact dW h ha hd (.lit _) hW.2 (fP hk _ _ _ bu)
       ·exact dW h ha hd (.lit _) hW.2 (fP hk _ _ _ bu)
      ·exact hW.elim
     ·rename_i sz rows he;rw[he]at hx;rcases hx.Aq.inv with⟨ad,cap,rfl,bu⟩|⟨b,o,cap,f,bu,_⟩
      ·exact dW h ha hd (.lit _) hW.2 (fP hW.1 _ _ _ bu)
      ·exact dW h ha hd (.lit _) hW.2 (fP hW.1 _ _ _ bu)
     ·rename_i he;rw[he]at hx;exact dW h ha hd (.lit _) hW.2 (fP hW.1 _ _ _ hx.dm)
     ·rename_i id he;obtain⟨hk,hW⟩:=hW;split at hW
      ·rename_i ag L ho;obtain⟨kt,ht⟩:=Lz hk;rw[he]at hx;obtain⟨_,_,b,f,hb,bu,lp,_⟩:=Em h hx (id:=id) (ag:=ag) (L:=L) (by simp[mU,ho]);refine dW h ha hd (.lit _) hW ?_;simp[execOp,resolve,invoke,builtin,Builtin.len_,run_underlying ht,bu,goInt,MapKept.run_getObj_map lp,dy,rK]
      ·exact hW.elim
     ·exact hW.elim
    ·exact hW.elim
   case append =>
    simp only at hW;split at hW
    ·rename_i s x t t' cV kD;have ea:=oQ _ cV;have et:=HS _ kD;subst ea;subst et;split at hW
     ·rename_i z pre σ1 sz src hk hz oh rJ;obtain⟨⟨rfl,eP,bg,h0,ou,hlen,Cj,ov⟩,hK⟩:=hW;have aeT:pF σ sz (ev σ s)=some (pre,σ1):=by rw[bg];exact oh
      obtain⟨qy,γ1,h1,h2,h3,h4,h5⟩:=aeU (P:=P) (oty:=type) h hk eP hz bg h0 ou (E s) (E x) aeT rJ hlen Cj ov;refine Ch (γ1:=γ1) h4 h3 (by rw[h2];exact ha) hd h5 hK ?_;simp[execOp,resolve,invoke,builtin,h1]
     ·exact hW.elim
    ·exact hW.elim
   case min =>
    simp only at hW;split at hW
    ·rename_i x y cV;have ea:=oQ _ cV;subst ea;have hx:=E x;have hy:=E y;split at hW
     ·rename_i k p k' q he hf;rw[he]at hx;rw[hf]at hy;obtain⟨rfl,hK⟩:=hW;refine dW h ha hd (.lit _) hK ?_;have e:(if q<p then q else p)=min p q:=by simp only[Int.min_def];split<;>split<;>omega
      simp[execOp,resolve,invoke,builtin,Builtin.min_,Builtin.min2,hx.dm,hy.dm,e]
     ·exact hW.elim
    ·exact hW.elim
   case max =>
    simp only at hW;split at hW
    ·rename_i x y cV;have ea:=oQ _ cV;subst ea;have hx:=E x;have hy:=E y;split at hW
     ·rename_i k p k' q he hf;rw[he]at hx;rw[hf]at hy;obtain⟨rfl,hK⟩:=hW;refine dW h ha hd (.lit _) hK ?_;have e:(if q > p then q else p)=max p q:=by simp only[Int.max_def];split<;>split<;>omega
      simp[execOp,resolve,invoke,builtin,Builtin.max_,Builtin.max2,hx.dm,hy.dm,e]
     ·exact hW.elim
    ·exact hW.elim
   case copy =>
    simp only at hW;split at hW
    ·rename_i s x t t' cV kD;have ea:=oQ _ cV;have et:=HS _ kD;subst ea;subst et;have hs:=E s;split at hW
     ·rename_i id sz off len dL src he rJ;rw[he]at hs;split at hW
      ·rename_i lU rows ho;obtain⟨⟨hk,eP,rfl,rfl,bg,h0,ov⟩,hK⟩:=hW;obtain⟨w',h1,h2,h3⟩:=aeV (P:=P) (t':=t') (oty:=type) h hk eP bg h0 hs (E x) ho rJ ov;refine Ch (γ1:={ γ with w:=w' }) h3 h2 ha hd (.lit _) hK ?_;simp[execOp,resolve,invoke,builtin,h1]
      ·exact hW.elim
     ·exact hW.elim
    ·exact hW.elim
   case clear =>
    simp only at hW;split at hW
    ·rename_i s t cV kD;have ea:=oQ _ cV;have et:=HS _ kD;subst ea;subst et;have hs:=E s;split at hW
     ·rename_i id sz off len z he hz;rw[he]at hs;split at hW
      ·rename_i dL rows ho;obtain⟨⟨hk,eP,rfl,ou,h0,HT⟩,hK⟩:=hW;obtain⟨w',h1,h2,h3⟩:=aeW (P:=P) (oty:=type) h hk eP ou h0 hz HT hs ho;refine Ch (γ1:={ γ with w:=w' }) h3 h2 ha hd (.lit _) hK ?_;simp[execOp,resolve,invoke,builtin,h1]
      ·exact hW.elim
     ·exact hW.elim
    ·exact hW.elim
   all_goals exact hW.elim
 case convert s d x =>
  simp only at hW;have hx:=E x;split at hW
  ·rename_i k k' n uX he;rw[he]at hx;obtain⟨hu,hK⟩:=hW;obtain⟨u,hu⟩:=Option.isSome_iff_exists.1 hu;refine dW h ha hd (.lit _) hK ?_;simp[execOp,convert,run_underlying hu,run_underlying uX,hx.dm,Conv.intToInt]
  ·exact hW.elim
 all_goals exact hW.elim
end Go.Am

