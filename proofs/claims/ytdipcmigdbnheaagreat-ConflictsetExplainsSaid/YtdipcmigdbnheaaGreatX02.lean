import Derived.Test.YtdipcmigdbnheaaGreatX01
import Derived.MapKept
import Derived.Laws.StructEq
set_option linter.all false
set_option maxHeartbeats 0
set_option maxRecDepth 20000
open List renaming getElem?_take→vS,getElem?_drop→qc,getElem?_set→cA,getElem?_eq_some_iff→a8,ext_getElem→Pm,length_append→bQ,length_singleton→yF,mem_append→cH,mem_singleton→fE,getElem?_append_left→cT,getElem?_append_right→fV,getElem?_cons_zero→vP,ext_getElem?→kq,length_set→bF,mem_or_eq_of_mem_set→tz,getElem?_eq_getElem→bK,getD_eq_getElem?_getD→aA,getElem?_concat_length→Gy,getElem?_map→cj,replicate→bH,range→aW,range_succ→vV,flatMap_append→rA
open Nat renaming add_mul→gR,le_refl→aN,sub_self→hJ,ne_of_lt→nI,lt_or_ge→fK,sub_zero→vU,zero_add→gn,add_assoc→yH
open Option renaming some→dI,map_some→fl,map_none→oU,getD_some→jB,bind_some→vQ
open Array renaming range→J7,getElem?_eq_some_iff→qf,getElem?_setIfInBounds_ne→xj,getElem?_toList→Ds,getD_eq_getD_getElem?→gm
namespace Go.Am
def aew{P:Program}(w:World)(t e:TypeId)(a:Option Addr)(n c:Nat)(ht:P.underlying t=some (.slice e)):
  (binOp .eql t (.slice a n c) (.slice none 0 0)).run P w=.ok (.bool a.isNone) w:=by
 have h:∀ d:Nat,(Op.equalIn (d+1) t (.slice a n c) (.slice none 0 0)).run P w=.ok a.isNone w:=λd=>by
  cases a<;>simp[Op.equalIn,run_underlying ht]
 simp only[binOp];simp[Op.equal,Op.maxDepth,h 9999]
def aex{P:Program}(w:World)(t e:TypeId)(a:Option Addr)(n c:Nat)(ht:P.underlying t=some (.slice e)):
  (binOp .neq t (.slice a n c) (.slice none 0 0)).run P w=.ok (.bool (!a.isNone)) w:=by
 have h:∀ d:Nat,(Op.equalIn (d+1) t (.slice a n c) (.slice none 0 0)).run P w=.ok a.isNone w:=λd=>by
  cases a<;>simp[Op.equalIn,run_underlying ht]
 simp only[binOp];simp[Op.equal,Op.maxDepth,h 9999]
variable {P:Program}
def aey(w:World)(t:TypeId){e:TypeId}(a:Addr)(n c:Nat)(ht:P.underlying t=some (.slice e)):
  (binOp .eql t (.slice (some a) n c) (.slice none 0 0)).run P w=.ok (.bool false) w:=by
 have h:∀ d:Nat,(Op.equalIn (d+1) t (.slice (some a) n c) (.slice none 0 0)).run P w=.ok false w:=λd=>by
  simp[Op.equalIn,run_underlying ht]
 simp only[binOp];simp[Op.equal,Op.maxDepth,h 9999]
def aez(w:World)(t:TypeId){e:TypeId}(a:Addr)(n c:Nat)(ht:P.underlying t=some (.slice e)):
  (binOp .neq t (.slice (some a) n c) (.slice none 0 0)).run P w=.ok (.bool true) w:=by
 have h:∀ d:Nat,(Op.equalIn (d+1) t (.slice (some a) n c) (.slice none 0 0)).run P w=.ok false w:=λd=>by
  simp[Op.equalIn,run_underlying ht]
 simp only[binOp];simp[Op.equal,Op.maxDepth,h 9999]
def aC.K5{os:List Ob}{w:World}{Z:Nat->Prop}{blk:iG}{id r c:Nat}{cv:Value}(h:aC os w Z blk (.ptr id r c) cv):
  os[id]?=some .gone\/(∃ b cap cells,os[id]?=some (.var cells)/\blk id=some (b,0,cap)/\r=0/\cv=.pointer (some ⟨b,c,none⟩)) \/
  (∃ sz b o cap rows,os[id]?=some (.arr sz rows)/\blk id=some (b,o,cap)/\cv=.pointer (some ⟨b,o+(r*sz+c),none⟩)):=by
 cases h with
 |cC _ _ h=>cases h
 |ov _ _ _ _ h=>exact .inl h
 |oZ _ _ b cap cells h hb=>exact .inr (.inl ⟨b,cap,cells,h,hb,rfl,rfl⟩)
 |pJ _ _ _ sz b o cap rows h hb=>exact .inr (.inr ⟨sz,b,o,cap,rows,h,hb,rfl⟩)
def aC.RS{os:List Ob}{w:World}{Z:Nat->Prop}{blk:iG}{cells:List AV}{cv:Value}(h:aC os w Z blk (.cq cells) cv):
  ∃ b o,∃ f:Nat->Value,cv=.pointer (some ⟨b,o,none⟩)/\Z b/\(∀ j x,cells[j]?=some x->w.cell? ⟨b,o+j,none⟩=some (f j))/\∀ j x,cells[j]?=some x->jf w Z x (f j):=by
 cases h with
 |cC _ _ h=>cases h
 |cq _ b o f h1 h2 h3=>exact⟨b,o,f,rfl,h1,h2,h3⟩
def aC.K6{os:List Ob}{w:World}{Z:Nat->Prop}{blk:iG}{id sz off len:Nat}{cv:Value}(h:aC os w Z blk (.ref id sz off len) cv):
  os[id]?=some .gone\/(os[id]?=some (.arr sz [])/\blk id=none/\off=0/\len=0/\cv=.slice none 0 0) \/
  (len=0/\∃ b x bo rows,os[id]?=some (.arr sz rows)/\blk id=some (b,bo)/\off<=rows.length/\cv=.slice (some ⟨b,x,none⟩) 0 0) \/
  (∃ b o cap cap' rows,os[id]?=some (.arr sz rows)/\blk id=some (b,o,cap)/\off+len<=rows.length/\off+cap'<=cap/\len<=cap'/\cv=.slice (some ⟨b,o+off*sz,none⟩) len cap'):=by
 cases h with
 |cC _ _ h=>cases h
 |mh _ _ _ _ _ h=>exact .inl h
 |nN _ _ h hb=>exact .inr (.inl ⟨h,hb,rfl,rfl,rfl⟩)
 |ow _ _ _ b x bo rows h hb hl=>exact .inr (.inr (.inl ⟨rfl,b,x,bo,rows,h,hb,hl,rfl⟩))
 |ref _ _ _ _ b o cap cap' rows h hb hl hc lh=>exact .inr (.inr (.inr ⟨b,o,cap,cap',rows,h,hb,hl,hc,lh,rfl⟩))
def aC.Rs{os:List Ob}{w:World}{Z:Nat->Prop}{blk:iG}{cs:List AV}{cv:Value}(h:aC os w Z blk (.agg cs) cv):
  ∃ bG,cv=.agg bG/\bG.size=cs.length/\∀ j x,cs[j]?=some x->aC os w Z blk x (bG.getD j Go.undef):=by
 cases h with
 |cC _ _ h=>cases h
 |agg _ bG h1 h2=>exact⟨bG,rfl,h1,h2⟩
def aC.Rt{os:List Ob}{w:World}{Z:Nat->Prop}{blk:iG}{cs:List AV}{cv:Value}(h:aC os w Z blk (.bJ cs) cv):
  ∃ bG,cv=.tuple bG/\bG.size=cs.length/\∀ j x,cs[j]?=some x->aC os w Z blk x (bG.getD j Go.undef):=by
 cases h with
 |cC _ _ h=>cases h
 |bJ _ bG h1 h2=>exact⟨bG,rfl,h1,h2⟩
def aC.RF{os:List Ob}{w:World}{Z:Nat->Prop}{blk:iG}{f:FuncId}{cs:List AV}{cv:Value}(h:aC os w Z blk (.fn f cs) cv):
  ∃ bG,cv=.func (.func f) #[] bG/\bG.size=cs.length/\∀ j x,cs[j]?=some x->aC os w Z blk x (bG.getD j Go.undef):=by
 cases h with
 |cC _ _ h=>cases h
 |fn _ _ bG h1 h2=>exact⟨bG,rfl,h1,h2⟩
def aC.RG{os:List Ob}{w:World}{Z:Nat->Prop}{blk:iG}{t:TypeId}{v:AV}{cv:Value}(h:aC os w Z blk (.jl t v) cv):∃x,cv=.iface t x/\aC os w Z blk v x:=by
 cases h with
 |cC _ _ h=>cases h
 |jl _ _ x h=>exact⟨x,rfl,h⟩
def jf.inv{w:World}{Z:Nat->Prop}{sz:Nat}{rows:List (List AV)}{cv:Value}(h:jf w Z (.tree sz rows) cv):
  (∃ a cap,rows=[]/\cv=.slice a 0 cap)\/∃ b o cap,∃ f:Nat->Nat->Value,cv=.slice (some ⟨b,o,none⟩) rows.length cap/\Z b/\(∀ row∈rows,row.length=sz)/\rows.length<=cap /\
   (∀ r c x,cellAt rows r c=some x->w.cell? ⟨b,o+(r*sz+c),none⟩=some (f r c))/\∀ r c x,cellAt rows r c=some x->jf w Z x (f r c):=by
 cases h with
 |nil _ cap a=>exact .inl ⟨a,cap,rfl,rfl⟩
 |tree _ _ b o cap f h1 h2 h3 h4 h5=>exact .inr ⟨b,o,cap,f,rfl,h1,h2,h3,h4,h5⟩
def jf.sub{w:World}{Z:Nat->Prop}{sz:Nat}{rows:List (List AV)}{b o cap cap':Nat}{f:Nat->Nat->Value}(hz:Z b)(hr:∀ row∈rows,row.length=sz)(hc:∀ r c x,cellAt rows r c=some x->w.cell? ⟨b,o+(r*sz+c),none⟩=some (f r c))(ht:∀ r c x,cellAt rows r c=some x->jf w Z x (f r c))(lo n:Nat)(hn:n<=cap')(_hcap:rows.length<=cap)(jv:lo+n<=rows.length):
  jf w Z (.tree sz ((rows.drop lo).take n)) (.slice (some ⟨b,o+lo*sz,none⟩) n cap'):=by
 have hlen:((rows.drop lo).take n).length=n:=aar;have qm:∀ r c x,cellAt ((rows.drop lo).take n) r c=some x->cellAt rows (lo+r) c=some x:=by
  intro r c x hx;simp only[cellAt,vS,qc]at hx;split at hx
  ·exact hx
  ·simp at hx
 have:=jf.tree (w:=w) (Z:=Z) sz ((rows.drop lo).take n) b (o+lo*sz) cap' (λr c=>f (lo+r) c) hz (λrow h=>hr row (List.mem_of_mem_drop (List.mem_of_mem_take h))) GC
  (λr c x hx=>by
   have h1:=hc _ _ _ (qm r c x hx);rw[gR]at h1;have e:o+(lo*sz+r*sz+c)=o+lo*sz+(r*sz+c):=GC;rw[e]at h1;exact h1) (λr c x hx=>ht _ _ _ (qm r c x hx))
 rw[hlen]at this;exact this
def Hn{o:Oper}{σ:St}{γ:Cx}{a:Act}{K:St->Prop}(h:bS σ γ)(ha:γ.tmps=a.tmps)(hd:∀ d,o.dst=some d->d<a.tmps.size){ob:Ob}{cur:Array Value}{t:TypeId}{cap:Nat}(bk:uV σ.aa γ.w γ.Z γ.blk 0 cap cur ob){v:AV}{cv:Value}(hv:aC (σ.aa++[ob]) (γ.w.alloc (.cells cur t)) γ.Z (dL γ.blk σ.aa.length (some (γ.w.heap.size,0,cap))) v cv)(hK:K (({ σ with aa:=σ.aa++[ob] }:St).put o.dst v)){r:Result Next}(hr:r=.ok (.value cv) (γ.w.alloc (.cells cur t))):Av o σ γ a K r :=
 B3 (σ1:={ σ with aa:=σ.aa++[ob] }) (γ1:={ γ with w:=γ.w.alloc (.cells cur t),blk:=dL γ.blk σ.aa.length (some (γ.w.heap.size,0,cap)) })
  (Fr.push (t:=t) (cur:=cur) ob rfl rfl rfl rfl) (h.push (t:=t) (cur:=cur) rfl bk) ha hd hv hK hr
def uG(ents:List (Value×Value)):(dT ents).toList=ents.mapIdx λi p=>(⟨p.1,p.2,i⟩:MapEntry):=by simp[dT]
def K7(L:List (Value×Value))(p:Value×Value):(dT L).push ⟨p.1,p.2,L.length⟩=dT (L++[p]):=by
 apply Array.toList_inj.1;rw[Array.toList_push,uG,uG,List.mapIdx_append];simp
def Ho(L:List (Value×Value))(i:Nat)(f:MapEntry->MapEntry)(p:Value×Value)(hf:∀ q,L[i]?=some q->f ⟨q.1,q.2,i⟩=⟨p.1,p.2,i⟩):(dT L).modify i f=dT (L.set i p):=by
 apply Array.ext_getElem?;intro j;rw[Array.getElem?_modify];simp only[dT,List.getElem?_toArray,List.getElem?_mapIdx,cA];by_cases h:i=j
 ·subst h;rw[if_pos rfl,if_pos rfl];cases hq:L[i]? with
  |none =>
   have:¬ i<L.length:=by
    have:=List.getElem?_eq_none_iff.1 hq;omega
   simp[this]
  |some q =>
   have:i<L.length:=(a8.1 hq).1;simp[this,hf q hq]
 ·rw[if_neg h,if_neg h]
def Aw(ag:Nat)(f:Nat->Value)(L:List (List Int×AV)):(eD ag f L).length=L.length:=by unfold eD;simp
def uW(ag:Nat)(f:Nat->Value)(L:List (List Int×AV))(j:Nat):(eD ag f L)[j]?=(L[j]?).map λp=>(kV ag p.1,f j):=by unfold eD;simp
def Aa{l:List Int}:∀ {L:List (List Int×AV)} {i j:Nat},kM l L i=some j->i<=j/\∃ v,L[j-i]?=some (l,v)
 |[],_,_,h=>by cases h
 |p::r,i,j,h=>by
  rw[kM]at h;split at h
  ·rename_i hp;cases h;exact⟨aN _,p.2,by rw[hJ];simp[<- hp]⟩
  ·obtain⟨h1,v,h2⟩:=Aa h;have e:j-i=(j-(i+1))+1:=GC;exact⟨GC,v,by rw[e,List.getElem?_cons_succ];exact h2⟩
def D3{σ:St}{γ:Cx}(h:bS σ γ){v:AV}{cv:Value}(hv:aC σ.aa γ.w γ.Z γ.blk v cv){id ag:Nat}{L:List (List Int×AV)}(hm:ng σ v=some (id,ag,L)):
  v=.iV id/\σ.aa[id]?=some (.mp ag L)/\∃ b,∃ f:Nat->Value,γ.blk id=some (b,0,0)/\cv=.map (some b)/\γ.w.heap[b]?=some (.map (dT (eD ag f L)) L.length)/\(∀ p∈L,p.1.length=lj ag)/\∀ (j:Nat) p,L[j]?=some p->aC σ.aa γ.w γ.Z γ.blk p.2 (f j):=by
 unfold ng at hm;split at hm
 ·rename_i yP;split at hm
  ·rename_i jU L' ho;simp only[dI.injEq,Prod.mk.injEq]at hm;obtain⟨rfl,rfl,rfl⟩:=hm;obtain⟨b,f,h1,h2,h3,h4⟩:=h.fL _ _ ho;cases hv with
   |cC _ _ h=>cases h
   |sN _ _ h' _=>rw[ho]at h';simp at h'
   |iV _ b' _ _ h' hb =>
    rw[h1]at hb;simp only[dI.injEq,Prod.mk.injEq,and_true]at hb;subst hb;exact⟨rfl,ho,b,f,h1,rfl,h2,h3,h4⟩
  ·cases hm
 ·cases hm
def K8{os:List Ob}{w:World}{Z:Nat->Prop}{blk:iG}{v:AV}{cv:Value}(hv:aC os w Z blk v cv){ag:Nat}{l:List Int}(hk:keyOf v=some (ag,l))(hl:l.length=lj ag):cv=kV ag l:=by
 unfold keyOf at hk;split at hk
 ·simp only[dI.injEq,Prod.mk.injEq]at hk;obtain⟨rfl,rfl⟩:=hk;rw[hv.dz];rfl
 ·rename_i cs;cases hi:qw cs with
  |none=>simp[hi]at hk
  |some as =>
   simp only[hi,fl,dI.injEq,Prod.mk.injEq]at hk;obtain⟨rfl,rfl⟩:=hk;have:=K9 hv hi;rw[this];unfold lj at hl;unfold kV;by_cases h0:as.length=0
   ·rw[if_pos h0]at hl;omega
   ·rw[if_neg h0]
 ·cases hk
def aeA{t:TypeId}{ag:Nat}(uX:me P t ag){z:Value}{w:World}(hz:∀ kt et,P.underlying t=some (.map kt et)->(zeroValue et).run P w=.ok z w){b:Nat}{f:Nat->Value}{L:List (List Int×AV)}(hb:w.heap[b]?=some (.map (dT (eD ag f L)) L.length))(hL:∀ p∈L,p.1.length=lj ag){l:List Int}(hl:l.length=lj ag):
  (Instr.lookup t (.map (some b)) (kV ag l) false).run P w=.ok (((kM l L 0).map f).getD z) w:=by
 obtain⟨kt,et,ht,hk⟩:=uX;obtain⟨h1,h2,h3⟩:=hk l hl;simp only[Instr.lookup,Sem.run_bind,run_underlying ht,MapKept.run_getObj_map hb,h1,h3 f L w hL,Result.andThen_ok,Sem.run_pure];cases h:kM l L 0 with
 |none=>simp[hz kt et ht]
 |some q=>simp
def aeB{t:TypeId}{ag:Nat}(uX:me P t ag){w:World}{b:Nat}{f:Nat->Value}{L:List (List Int×AV)}(hb:w.heap[b]?=some (.map (dT (eD ag f L)) L.length))(hL:∀ p∈L,p.1.length=lj ag){l:List Int}(hl:l.length=lj ag)(v:AV)(cv:Value):
  ∃ f':Nat->Value,(Instr.mapUpdate t (.map (some b)) (kV ag l) cv).run P w=.ok () { w with heap:=w.heap.setIfInBounds b (.map (dT (eD ag f' (gW l v L))) (gW l v L).length) } /\
   (∀ p∈gW l v L,p.1.length=lj ag)/\∀ (j:Nat) p,(gW l v L)[j]?=some p->(p.2=v/\f' j=cv)\/(L[j]?=some p/\f' j=f j):=by
 obtain⟨kt,et,ht,hk⟩:=uX;obtain⟨h1,h2,h3⟩:=hk l hl;simp only[Instr.mapUpdate,Sem.run_bind,run_underlying ht,MapKept.run_getObj_map hb,h1,h3 f L w hL,Result.andThen_ok];unfold gW;cases h:kM l L 0 with
 |none =>
  refine⟨λj=>if j=L.length then cv else f j,?_,λp hp=>?_,λj p hp=>?_⟩
  ·have e:=K7 (eD ag f L) (kV ag l,cv);rw[Aw]at e;have e2:eD ag f L++[(kV ag l,cv)]=eD ag (λj=>if j=L.length then cv else f j) (L++[(l,v)]):=by
    unfold eD;rw[List.mapIdx_append];congr 1
    ·apply Pm
     ·simp
     ·intro j h5 h6;have:j<L.length:=by simpa using h5
      simp[nI this]
    ·simp
   simp only[oU,MapKept.run_setObj_map _ hb,e,e2,bQ,yF]
  ·rcases cH.1 hp with hp|hp
   ·exact hL p hp
   ·rw[fE.1 hp];exact hl
  ·rcases fK j L.length with hj|hj
   ·rw[cT hj]at hp;exact .inr ⟨hp,by dsimp only;rw[if_neg GC]⟩
   ·rw[fV hj]at hp;have:j=L.length:=by
     have:=(a8.1 hp).1;simp at this;omega
    subst this;simp only[hJ,vP,dI.injEq]at hp;subst hp;exact .inl ⟨rfl,by dsimp only;rw[if_pos rfl]⟩
 |some q =>
  obtain⟨_,u,hu⟩:=Aa h;rw[vU]at hu;have hq:=(a8.1 hu).1;refine⟨λj=>if j=q then cv else f j,?_,λp hp=>?_,λj p hp=>?_⟩
  ·have D4:(((dT (eD ag f L))[q]?).map (·.key)).getD (kV ag l)=kV ag l:=by
    simp[dT,uW,hu]
   have e:=Ho (eD ag f L) q (λe=>{ e with key:=kV ag l,val:=cv }) (kV ag l,cv) (λ_ _=>rfl);have e2:(eD ag f L).set q (kV ag l,cv)=eD ag (λj=>if j=q then cv else f j) (L.set q (l,v)):=by
    apply kq;intro j;rw[cA,uW,uW,cA,Aw];by_cases hj:q=j
    ·subst hj;simp[hq]
    ·rw[if_neg hj,if_neg hj,if_neg (Ne.symm hj)]
   simp only[fl,D4,h2,Result.andThen_ok,MapKept.run_setObj_map _ hb,Sem.run_bind];rw[e,e2,bF]
  ·rcases tz hp with hp|hp
   ·exact hL p hp
   ·rw[hp];exact hl
  ·simp only[cA]at hp;by_cases hj:q=j
   ·subst hj;rw[if_pos rfl,if_pos hq]at hp;cases hp;exact .inl ⟨rfl,by dsimp only;rw[if_pos rfl]⟩
   ·rw[if_neg hj]at hp;exact .inr ⟨hp,by dsimp only;rw[if_neg (Ne.symm hj)]⟩
def bS.wrR{σ:St}{γ:Cx}(h:bS σ γ){id:Nat}{ob ob':Ob}(ho:σ.aa[id]?=some ob)(hg:ob≠.gone)(iX:ob.fB ob'){b o cap:Nat}(hb:γ.blk id=some (b,o,cap)){w':World}(pL:∀ k,k≠b->w'.heap[k]?=γ.w.heap[k]?):∀ v cv,aC σ.aa γ.w γ.Z γ.blk v cv->aC (σ.aa.set id ob') w' γ.Z γ.blk v cv:=by
 have dt:id<σ.aa.length:=(a8.1 ho).1;have qD:Live σ.aa id:=⟨ob,ho,hg⟩;exact λv cv hv =>
  hv.mono (λz hz=>⟨hz,pL z (λe=>h.nz b ⟨id,o,cap,qD,hb⟩ (e▸hz))⟩) (λi x hx=>by
   rw[cA];by_cases oB:id=i
   ·subst oB;rw[ho]at hx;simp at hx;subst hx;right;refine⟨rfl,ob',by simp[dt],iX⟩
   ·rw[if_neg oB];by_cases bP:x=.gone
    ·subst bP;exact .inl hx
    ·exact .inr ⟨rfl,x,hx,Ob.lk bP⟩)
def aeD{t:TypeId}{ag:Nat}(uX:me P t ag){z:Value}{w:World}(hz:∀ kt et,P.underlying t=some (.map kt et)->(zeroValue et).run P w=.ok z w){b:Nat}{f:Nat->Value}{L:List (List Int×AV)}(hb:w.heap[b]?=some (.map (dT (eD ag f L)) L.length))(hL:∀ p∈L,p.1.length=lj ag){l:List Int}(hl:l.length=lj ag):
  ∃ f':Nat->Value,(Instr.mapEntry t (.map (some b)) (kV ag l)).run P w=.ok (.tuple #[((kM l L 0).map f).getD z,.int .i64 (BX l L:Nat)]) { w with heap:=w.heap.setIfInBounds b (.map (dT (eD ag f' (gW l ((pH l L).getD (.lit z)) L))) (gW l ((pH l L).getD (.lit z)) L).length) } /\
   (∀ p∈gW l ((pH l L).getD (.lit z)) L,p.1.length=lj ag)/\∀ (j:Nat) p,(gW l ((pH l L).getD (.lit z)) L)[j]?=some p->(p.2=(pH l L).getD (.lit z)/\f' j=((kM l L 0).map f).getD z)\/(L[j]?=some p/\f' j=f j):=by
 obtain⟨kt,et,ht,hk⟩:=uX;obtain⟨h1,h2,h3⟩:=hk l hl;generalize hv:(pH l L).getD (.lit z)=v;simp only[Instr.mapEntry,Sem.run_bind,run_underlying ht,MapKept.run_getObj_map hb,h1,h3 f L w hL,Result.andThen_ok];unfold gW BX;cases h:kM l L 0 with
 |none =>
  refine⟨λj=>if j=L.length then z else f j,?_,λp hp=>?_,λj p hp=>?_⟩
  ·have e:=K7 (eD ag f L) (kV ag l,z);rw[Aw]at e;have e2:eD ag f L++[(kV ag l,z)]=eD ag (λj=>if j=L.length then z else f j) (L++[(l,v)]):=by
    unfold eD;rw[List.mapIdx_append];congr 1
    ·apply Pm
     ·simp
     ·intro j h5 h6;have:j<L.length:=by simpa using h5
      simp[nI this]
    ·simp
   simp only[oU,hz kt et ht,Result.andThen_ok,MapKept.run_setObj_map _ hb,Sem.run_bind,e,e2,bQ,yF,Sem.run_pure,Option.getD_none,goInt]
  ·rcases cH.1 hp with hp|hp
   ·exact hL p hp
   ·rw[fE.1 hp];exact hl
  ·rcases fK j L.length with hj|hj
   ·rw[cT hj]at hp;exact .inr ⟨hp,by dsimp only;rw[if_neg GC]⟩
   ·rw[fV hj]at hp;have:j=L.length:=by
     have:=(a8.1 hp).1;simp at this;omega
    subst this;simp only[hJ,vP,dI.injEq]at hp;subst hp;exact .inl ⟨rfl,by dsimp only;rw[if_pos rfl];rfl⟩
 |some q =>
  obtain⟨_,u,hu⟩:=Aa h;rw[vU]at hu;have hq:=(a8.1 hu).1;refine⟨f,?_,λp hp=>?_,λj p hp=>?_⟩
  ·have D4:(((dT (eD ag f L))[q]?).map (·.key)).getD (kV ag l)=kV ag l:=by
    simp[dT,uW,hu]
   have aeE:(((dT (eD ag f L))[q]?).map (λe=>(e.born:Int))).getD 0=(q:Int):=by
    simp[dT,uW,hu]
   have e:=Ho (eD ag f L) q (λe=>{ e with key:=kV ag l }) (kV ag l,f q) (λx hx=>by
    rw[uW,hu]at hx;cases hx;rfl)
   have e2:(eD ag f L).set q (kV ag l,f q)=eD ag f (L.set q (l,v)):=by
    apply kq;intro j;rw[cA,uW,uW,cA,Aw];by_cases hj:q=j
    ·subst hj;simp[hq]
    ·rw[if_neg hj,if_neg hj]
   simp only[fl,D4,h2,Result.andThen_ok,MapKept.run_setObj_map _ hb,Sem.run_bind,Sem.run_pure,aeE,jB,goInt];rw[e,e2,bF]
  ·rcases tz hp with hp|hp
   ·exact hL p hp
   ·rw[hp];exact hl
  ·simp only[cA]at hp;by_cases hj:q=j
   ·subst hj;rw[if_pos rfl,if_pos hq]at hp;cases hp;exact .inl ⟨rfl,rfl⟩
   ·rw[if_neg hj]at hp;exact .inr ⟨hp,rfl⟩
def aeF(ents:List (Value×Value)){n:Nat}(hn:n<ents.length):(dT ents).findIdx? (λe=>(e.born:Int)==(n:Int))=some n:=by
 unfold dT;rw[List.findIdx?_toArray,List.findIdx?_eq_some_iff_getElem];refine⟨by simpa using hn,GF,λj hj=>?_⟩;simp only[List.getElem_mapIdx];simp;omega
def aeG{t:TypeId}{ag:Nat}{w:World}{b:Nat}{f:Nat->Value}{L:List (List Int×AV)}(hb:w.heap[b]?=some (.map (dT (eD ag f L)) L.length)){n:Nat}(hn:n<L.length)(v:AV)(cv:Value):
  (Instr.entryStore t (.map (some b)) (.int .i64 (n:Nat)) cv).run P w=.ok () { w with heap:=w.heap.setIfInBounds b (.map (dT (eD ag (λj=>if j=n then cv else f j) (rI n v L))) (rI n v L).length) }:=by
 have hf:=aeF (eD ag f L) (n:=n) (by rw[Aw];exact hn);have e:=Ho (eD ag f L) n (λe=>{ e with val:=cv }) (kV ag (L.getD n ([],.undef)).1,cv) (λx hx=>by
  rw[uW,bK hn]at hx;cases hx;rw[aA,bK hn];rfl)
 have e2:(eD ag f L).set n (kV ag (L.getD n ([],.undef)).1,cv)=eD ag (λj=>if j=n then cv else f j) (rI n v L):=by
  unfold rI;apply kq;intro j;rw[cA,uW,uW,cA,Aw];by_cases hj:n=j
  ·subst hj;simp[hn]
  ·rw[if_neg hj,if_neg hj,if_neg (Ne.symm hj)]
 simp only[Instr.entryStore,Sem.run_bind,MapKept.run_getObj_map hb,asInt,asIntOf,Sem.run_pure,Result.andThen_ok,hf,MapKept.run_setObj_map _ hb];rw[e,e2];simp[rI]
def K'{P:Program}{t:TypeId}(h:(ty P t).kind=8):∃kt,P.underlying t=some (.map kt (ty P t).elem):=by
 unfold ty at h ⊢;cases hi:P.info? t<;>cases hd:P.underlying t<;>simp[hi,hd]at h ⊢;rename_i i d;cases d<;>simp at h ⊢
def aeh{o:Oper}{σ:St}{K:St->Prop}(hW:cU P o σ K){γ:Cx}(h:bS σ γ){a:Act}(ha:γ.tmps=a.tmps)(hd:∀ d,o.dst=some d->d<a.tmps.size):
  Av o σ γ a K ((execOp a.eval o).run P γ.w):=by
 obtain⟨dst,op,type,pos,after,guard⟩:=o;unfold cU at hW;have E:=λx=>uS h ha x;cases op
 case move x=>exact ej h ha hd (E x) hW (by simp[execOp])
 case assign x=>exact ej h ha hd (E x) hW (by simp[execOp])
 case pick c x y =>
  simp only at hW;have hc:=E c;split at hW
  ·rename_i t he;rw[he]at hc;have bD:=hc.dz;refine ej h ha hd (v:=gV t (ev σ x) (ev σ y)) (cv:=if t then a.eval x else a.eval y) ?_ hW (by simp[execOp,bD,asBool]);unfold gV;split
   ·rename_i x' y' h1 h2;have hx:=E x;have hy:=E y;rw[h1]at hx;rw[h2]at hy;rw[hx.dz,hy.dz];cases t<;>exact .lit _
   ·cases t
    ·exact E y
    ·exact E x
  ·exact hW.elim
 case alloc e =>
  simp only at hW;obtain⟨aK,hW⟩:=hW;split at hW
  ·rename_i z hz;obtain⟨v,hv,hvc⟩:=RT aK hz γ.w;obtain⟨l1,l2⟩:=La (os:=σ.aa) (w:=γ.w) (Z:=γ.Z) (blk:=γ.blk) z;refine Hn (ob:=.var (z.map .lit)) (v:=.ptr σ.aa.length 0 0) (cv:=.pointer (some ⟨γ.w.heap.size,0,none⟩)) (cap:=0) (cur:=z.toArray) (t:=e) h ha hd ⟨rfl,GF,l2⟩ ?_ hW ?_
   ·exact .oZ _ 0 _ 0 _ (Gy ..) (by simp[dL])
   ·simp[execOp,Instr.alloc,hv,newVar,newRow,hvc]
  ·exact hW.elim
 case box e x =>
  simp only at hW;obtain⟨hs,hK⟩:=hW;obtain⟨c1,c2,c3⟩:=Lb (E x) hs;refine Hn (ob:=.var (cellsOf (ev σ x))) (cv:=.pointer (some ⟨γ.w.heap.size,0,none⟩)) (cap:=0) (cur:=(a.eval x).cells) (t:=e) h ha hd ⟨rfl,c1,c2⟩ ?_ hK ?_
  ·exact .oZ _ 0 _ 0 _ (Gy ..) (by simp[dL])
  ·simp[execOp,Instr.box,newVar,newRow]
 case build t parts =>
  simp only at hW;split at hW
  ·rename_i z hk hz;split at hW
   ·rename_i cs hf;obtain⟨⟨hs,hp⟩,hK⟩:=hW;obtain⟨cur,h1,h2⟩:=aeI h ha hk hz hf hs hp;exact ej h ha hd h2 hK (by simp only[execOp,Sem.run_bind,h1,Result.andThen_ok,Sem.run_pure])
   ·exact hW.elim
  ·rename_i z hk hz;split at hW
   ·rename_i cs hf;obtain⟨⟨hs,hp⟩,hK⟩:=hW;obtain⟨cur,h1,h2⟩:=aeJ h ha hk hz hf hs hp;exact ej h ha hd h2 hK (by simp only[execOp,Sem.run_bind,h1,Result.andThen_ok,Sem.run_pure])
   ·exact hW.elim
  ·exact hW.elim
 case buildSlice t len parts =>
  simp only at hW;split at hW
  ·rename_i z hk hz;split at hW
   ·rename_i cs hf;obtain⟨⟨fA,h0,mn,Le,hs⟩,hK⟩:=hW;have ht:=uY hk;obtain⟨i,d,hi,Hp,uZ,_,hzero⟩:=u3 fA;obtain⟨zv,hzr,kS⟩:=RT fA hz γ.w;have Hq:0<z.length:=by rw[mn];exact h0
    obtain⟨hl,hr⟩:=Lf h ha parts;obtain⟨cur,f1,f2⟩:=Hs (σ:=σ) (γ:=γ) _ _ _ _ cs hl hr (λp hp=>by
     simp only[List.mem_map]at hp;obtain⟨q,hq,rfl⟩:=hp;rw[List.all_eq_true]at hs;exact hs q hq) (Lh z len (len*(ty P (ty P t).elem).size) (by rw[mn]) Hq) hf
    have anu:cs.length=len*(ty P (ty P t).elem).size:=by
     have:=Lh (os:=σ.aa) (w:=γ.w) (Z:=γ.Z) (blk:=γ.blk) z len (len*(ty P (ty P t).elem).size) (by rw[mn]) Hq;have h1:∀ (parts:List (Nat×AV)) (cs sO:List AV) (place:Nat->Option (Nat×Nat)),nK place cs parts=some sO->sO.length=cs.length:=by
      intro parts
      induction parts with
      |nil=>intro cs sO place h;simp[nK]at h;rw[h]
      |cons p parts ih =>
       intro cs sO place h;obtain⟨i,v⟩:=p;simp only[nK]at h;split at h
       ·simp at h
       ·split at h
        ·rw[ih _ _ _ h,Li]
        ·simp at h
     rw[h1 _ _ _ _ hf,<- this.1];simp
    have hmul:len*(ty P (ty P t).elem).size<=16777216:=Le;have hlen:len<=maxLen:=by
     have:len*1<=len*(ty P (ty P t).elem).size:=Nat.mul_le_mul_left _ h0;unfold maxLen;omega
    have fN:(Instr.buildSlice t len (parts.map λ(i,x)=>(i,a.eval x))).run P γ.w=.ok (.slice (some ⟨γ.w.heap.size,0,none⟩) len len) (γ.w.alloc (.cells cur (ty P t).elem)):=by
     have kU:¬ (len*(ty P (ty P t).elem).size > 2^24):=GC;by_cases hl0:len*(ty P (ty P t).elem).size=0
     ·rw[hl0]at f1;have e0:((J7 0).map λx=>(#[]:Array Value)[x%(#[]:Array Value).size]!)=((J7 0).map (z.toArray[· % z.toArray.size]!)):=GF;simp only[Instr.buildSlice,Sem.run_bind,run_underlying ht,Result.andThen_ok,run_sizeOf fA,if_false,hl0,if_true,Sem.run_pure,Nat.not_lt_zero,gt_iff_lt];rw[e0,f1];simp[newRow]
     simp only[Instr.buildSlice,Sem.run_bind,run_underlying ht,Result.andThen_ok,run_sizeOf fA,kU,if_false,hl0,hzr,Sem.run_pure,kS];rw[show((J7 (len*(ty P (ty P t).elem).size)).map λx=>z.toArray[x%z.toArray.size]!)=((J7 (len*(ty P (ty P t).elem).size)).map (z.toArray[· % z.toArray.size]!)) from rfl,f1];simp[newRow]
    refine Hn (ob:=.arr (ty P (ty P t).elem).size (nL (ty P (ty P t).elem).size len cs)) (cv:=.slice (some ⟨γ.w.heap.size,0,none⟩) len len) (cap:=len) (cur:=cur) (t:=(ty P t).elem) h ha hd ?_ ?_ hK ?_
    ·refine⟨h0,RU _ _ _ GC,by rw[f2.1];omega,by rw[Lj];omega,hlen,?_⟩;intro r c v hv;rw[gn];exact f2.2 _ _ (RV _ _ _ _ _ _ hv)
    ·have:=aC.ref (os:=σ.aa++[.arr (ty P (ty P t).elem).size (nL (ty P (ty P t).elem).size len cs)]) (w:=γ.w.alloc (.cells cur (ty P t).elem)) (Z:=γ.Z) (blk:=dL γ.blk σ.aa.length (some (γ.w.heap.size,0,len)))
      σ.aa.length (ty P (ty P t).elem).size 0 len γ.w.heap.size 0 len len _ (by simp;rfl) (by simp[dL]) (by rw[Lj];omega) GC (aN _)
     simpa using this
    ·simp only[execOp,Sem.run_bind,fN,Result.andThen_ok,Sem.run_pure]
   ·exact hW.elim
  ·exact hW.elim
 case load t x =>
  simp only at hW;obtain⟨hk,hW⟩:=hW;have hx:=E x;split at hW
  ·rename_i id r c he;rw[he]at hx;split at hW
   ·rename_i row bq;obtain⟨v,qC,h1,h2,h3⟩:=KW h hk hx bq hW;exact ej h ha hd h2 h3 (by simp only[execOp,Sem.run_bind,h1,Result.andThen_ok,Sem.run_pure])
   ·exact hW.elim
  ·rename_i cells he;rw[he]at hx;obtain⟨v,qC,h1,h2,h3⟩:=aeL h hk hx hW;exact ej h ha hd h2 h3 (by simp only[execOp,Sem.run_bind,h1,Result.andThen_ok,Sem.run_pure])
  ·exact hW.elim
 case store t x y =>
  simp only at hW;obtain⟨hk,hW⟩:=hW;have hx:=E x;split at hW
  ·rename_i id r c he;rw[he]at hx;split at hW
   ·rename_i row bq;obtain⟨hc,hK⟩:=hW;obtain⟨w',h1,h2,h3⟩:=aeM h hk hx bq (E y) hc;exact Lk h3 h2 ha hd hK (by simp only[execOp,Sem.run_bind,h1,Result.andThen_ok,Sem.run_pure])
   ·exact hW.elim
  ·exact hW.elim
 case nilCheck x =>
  simp only at hW;have hx:=E x;split at hW
  ·rename_i id r c he;rw[he]at hx;cases ho:σ.aa[id]? with
   |none=>simp[ho]at hW
   |some ob =>
    have cY:ob≠.gone/\K (σ.put dst (.ptr id r c)):=by cases ob<;>simp[ho]at hW ⊢<;>exact hW
    have bD :∃ad,a.eval x=.pointer (some ad):=by
     rcases hx.K5 with h|⟨b,cap,cells,_,_,_,h⟩|⟨_,b,o,cap,rows,_,_,h⟩
     ·rw[ho]at h;simp at h;exact absurd h cY.1
     ·exact⟨_,h⟩
     ·exact⟨_,h⟩
    obtain⟨ad,bD⟩:=bD;exact ej h ha hd hx cY.2 (by simp[execOp,bD])
  ·rename_i cells he;rw[he]at hx;have bD :∃ad,a.eval x=.pointer (some ad):=by
    obtain⟨b,o,f,h,_⟩:=hx.RS;exact⟨_,h⟩
   obtain⟨ad,bD⟩:=bD;exact ej h ha hd hx hW (by simp[execOp,bD])
  ·exact hW.elim
 case binOp op t x y yt =>
  simp only at hW;have hx:=E x;have hy:=E y;split at hW
  ·rename_i k p k' q he hf;rw[he]at hx;rw[hf]at hy;obtain⟨rfl,hW⟩:=hW;obtain⟨v,h1,h2⟩:=aeN (P:=P) hW t γ.w;refine ej h ha hd (.lit v) h2 ?_;simp[execOp,hx.dz,hy.dz,eqGuard,h1]
  ·rename_i p q he hf;rw[he]at hx;rw[hf]at hy;obtain⟨hk,hW⟩:=hW;have ht:=aeO hk;split at hW
   ·refine ej h ha hd (.lit _) hW ?_;simp[execOp,hx.dz,hy.dz,eqGuard,run_eql_bool γ.w t p q ht]
   ·refine ej h ha hd (.lit _) hW ?_;simp[execOp,hx.dz,hy.dz,eqGuard,run_neq_bool γ.w t p q ht,bne]
   ·exact hW.elim
  ·rename_i sz rows he hf;rw[he]at hx;rw[hf]at hy;obtain⟨⟨hk,hr⟩,hW⟩:=hW;have ht:=uY hk;rcases hx.Ao.inv with⟨ad,cap,rfl,bD⟩|⟨b,o,cap,f,bD,_⟩
   ·exact absurd hr GF
   split at hW
   ·refine ej h ha hd (.lit _) hW ?_;simp[execOp,bD,hy.dz,eqGuard,aey γ.w t _ _ _ ht]
   ·refine ej h ha hd (.lit _) hW ?_;simp[execOp,bD,hy.dz,eqGuard,aez γ.w t _ _ _ ht]
   ·exact hW.elim
  ·rename_i ad n c he hf;rw[he]at hx;rw[hf]at hy;obtain⟨hk,hW⟩:=hW;have ht:=uY hk;split at hW
   ·refine ej h ha hd (.lit _) hW ?_;simp[execOp,hx.dz,hy.dz,eqGuard,aew γ.w t _ _ _ _ ht]
   ·refine ej h ha hd (.lit _) hW ?_;simp[execOp,hx.dz,hy.dz,eqGuard,aex γ.w t _ _ _ _ ht]
   ·exact hW.elim
  ·rename_i cs ds he hf;rw[he]at hx;rw[hf]at hy;split at hW
   ·rename_i as bs D5 Ll;obtain⟨⟨hq,hlen,B4⟩,hW⟩:=hW;have D6:=K9 hx D5;have Ax:=K9 hy Ll;have heq:=hq γ.w as bs rfl hlen;split at hW
    ·refine ej h ha hd (.lit _) hW ?_;simp only[execOp,D6,Ax,Sem.run_bind,run_eqGuard_agg γ.w _ _ _ _ _ _ B4,run_eql_struct,heq,Result.andThen_ok,Sem.run_pure]
    ·refine ej h ha hd (.lit _) hW ?_;simp only[execOp,D6,Ax,Sem.run_bind,run_eqGuard_agg γ.w _ _ _ _ _ _ B4,run_neq_struct,heq,Result.andThen_ok,Sem.run_pure]
    ·exact hW.elim
   ·exact hW.elim
  ·exact hW.elim
 case unOp op t x =>
  simp only at hW;have hx:=E x;split at hW
  ·rename_i b he;rw[he]at hx;exact ej h ha hd (.lit _) hW (by simp[execOp,hx.dz,Op.unary])
  ·rename_i k n he;rw[he]at hx;exact ej h ha hd (.lit _) hW.2 (by simp[execOp,hx.dz,Op.unary,Op.intArith,yZ hW.1])
  ·exact hW.elim
 case makeMap t r =>
  simp only at hW;obtain⟨⟨rfl,hk⟩,hK⟩:=hW;refine B3 (σ1:={ σ with aa:=σ.aa++[.mp (BW P t) []] }) (γ1:={ γ with w:=γ.w.alloc (.map #[] 0),blk:=dL γ.blk σ.aa.length (some (γ.w.heap.size,0,0)) })
   (Fr.D7 (cap:=0) _ rfl rfl rfl rfl) (h.D7 (cap:=0) rfl λos' w' lJ hR hb hx=>⟨_,λ_=>Go.undef,hb,hx,GF,GF⟩) ha hd
   (v:=.iV σ.aa.length) (cv:=.map (some γ.w.heap.size)) (.iV _ _ _ _ (Gy ..) (by simp[dL])) hK ?_
  simp[execOp,Instr.makeMap,newObj,Sem.run]
 case lookup t x i ok =>
  simp only at hW;split at hW
  ·rename_i ag l id jU L z jD o8 o9;obtain⟨⟨uX,rfl,hl,D8,rfl⟩,hK⟩:=hW;obtain⟨kt,ht⟩:=K' D8;obtain⟨_,ho,b,f,hb,bD,lr,hL,lu⟩:=D3 h (E x) o8;have D9:=K8 (E i) jD hl;have hz:∀ Ea Ay,P.underlying t=some (.map Ea Ay)->(zeroValue Ay).run P γ.w=.ok z γ.w:=by
    intro Ea Ay h';rw[ht]at h';cases h';unfold zeroV at o9;split at o9
    ·rename_i ii hi;simp[zeroValue,typeInfo,hi,o9]
    ·cases o9
   have fN:=aeA (P:=P) uX hz lr hL hl;refine ej (cv:=((kM l L 0).map f).getD z) h ha hd ?_ hK (by simp only[execOp,bD,D9,Sem.run_bind,fN,Result.andThen_ok,Sem.run_pure]);unfold pH;cases hf:kM l L 0 with
   |none=>exact .lit z
   |some q =>
    obtain⟨_,u,hu⟩:=Aa hf;rw[vU]at hu;simp only[vQ,hu,fl,jB];exact lu q _ hu
  ·exact hW.elim
 case mapUpdate t m k x =>
  simp only at hW;split at hW
  ·rename_i ag l id jU L jD o8;obtain⟨⟨uX,rfl,hl⟩,hK⟩:=hW;obtain⟨_,ho,b,f,hb,bD,lr,hL,lu⟩:=D3 h (E m) o8;have D9:=K8 (E k) jD hl;obtain⟨f',fN,Lm,hU⟩:=aeB (P:=P) uX lr hL hl (ev σ x) (a.eval x);have lL:b<γ.w.heap.size:=(qf.1 lr).1;refine Lk (σ1:={ σ with aa:=σ.aa.set id (.mp jU (gW l (ev σ x) L)) }) (γ1:={ γ with w:={ γ.w with heap:=γ.w.heap.setIfInBounds b (.map (dT (eD jU f' (gW l (ev σ x) L))) (gW l (ev σ x) L).length) } })
    (Fr.write (.mp jU (gW l (ev σ x) L)) ho GF rfl hb (λk hk=>by simp[xj (Ne.symm hk)]) GF rfl rfl rfl)
    (h.Ht (ob':=.mp jU (gW l (ev σ x) L)) ho GF rfl hb (λk hk=>by simp[xj (Ne.symm hk)]) GF λos' hR=>⟨b,f',hb,by simp[lL],Lm,λj p hp=>?_⟩) ha hd hK ?_
   ·rcases hU j p hp with⟨h1,h2⟩|⟨h1,h2⟩
    ·rw[h1,h2];exact hR _ _ (E x)
    ·rw[h2];exact hR _ _ (lu j p h1)
   ·simp only[execOp,bD,D9,Sem.run_bind,fN,Result.andThen_ok,Sem.run_pure]
  ·exact hW.elim
 case mapEntry t m k =>
  simp only at hW;split at hW
  ·rename_i ag l id jU L z jD o8 o9;obtain⟨⟨uX,rfl,hl,D8⟩,hK⟩:=hW;obtain⟨kt,ht⟩:=K' D8;obtain⟨_,ho,b,f,hb,bD,lr,hL,lu⟩:=D3 h (E m) o8;have D9:=K8 (E k) jD hl;have hz:∀ Ea Ay,P.underlying t=some (.map Ea Ay)->(zeroValue Ay).run P γ.w=.ok z γ.w:=by
    intro Ea Ay h';rw[ht]at h';cases h';unfold zeroV at o9;split at o9
    ·rename_i ii hi;simp[zeroValue,typeInfo,hi,o9]
    ·cases o9
   obtain⟨f',fN,Lm,hU⟩:=aeD (P:=P) uX hz lr hL hl;have lL:b<γ.w.heap.size:=(qf.1 lr).1;have hold:aC σ.aa γ.w γ.Z γ.blk ((pH l L).getD (.lit z)) (((kM l L 0).map f).getD z):=by
    unfold pH;cases hf:kM l L 0 with
    |none=>exact .lit z
    |some q =>
     obtain⟨_,u,hu⟩:=Aa hf;rw[vU]at hu;simp only[vQ,hu,fl,jB];exact lu q _ hu
   generalize (pH l L).getD (.lit z)=v at *;generalize ((kM l L 0).map f).getD z=cv at *;have hR0:∀ x y,aC σ.aa γ.w γ.Z γ.blk x y->aC (σ.aa.set id (.mp jU (gW l v L))) { γ.w with heap:=γ.w.heap.setIfInBounds b (.map (dT (eD jU f' (gW l v L))) (gW l v L).length) } γ.Z γ.blk x y :=
    h.wrR (ob':=.mp jU (gW l v L)) ho GF rfl hb (λk hk=>by simp[xj (Ne.symm hk)])
   refine B3 (σ1:={ σ with aa:=σ.aa.set id (.mp jU (gW l v L)) }) (γ1:={ γ with w:={ γ.w with heap:=γ.w.heap.setIfInBounds b (.map (dT (eD jU f' (gW l v L))) (gW l v L).length) } })
    (Fr.write (.mp jU (gW l v L)) ho GF rfl hb (λk hk=>by simp[xj (Ne.symm hk)]) GF rfl rfl rfl)
    (h.Ht (ob':=.mp jU (gW l v L)) ho GF rfl hb (λk hk=>by simp[xj (Ne.symm hk)]) GF λos' hR=>⟨b,f',hb,by simp[lL],Lm,λj p hp=>?_⟩) ha hd
    (v:=.bJ [v,aaC (BX l L:Nat)]) (cv:=.tuple #[cv,.int .i64 (BX l L:Nat)]) (.bJ _ _ rfl λj x hx=>?_) hK ?_
   ·rcases hU j p hp with⟨h1,h2⟩|⟨h1,h2⟩
    ·rw[h1,h2];exact hR _ _ hold
    ·rw[h2];exact hR _ _ (lu j p h1)
   ·match j,hx with
    |0,hx=>cases hx;exact hR0 _ _ hold
    |1,hx=>cases hx;exact .lit _
   ·simp only[execOp,bD,D9,Sem.run_bind,fN,Result.andThen_ok,Sem.run_pure]
  ·exact hW.elim
 case entryStore t m s x =>
  simp only at hW;split at hW
  ·rename_i n id ag L hs o8;obtain⟨⟨ef,gp⟩,hK⟩:=hW;obtain⟨_,ho,b,f,hb,bD,lr,hL,lu⟩:=D3 h (E m) o8;have Hu:=E s;rw[hs]at Hu;have fM:=Hu.dz;have hn:n=((n.toNat:Nat):Int):=GC;have fN:=aeG (P:=P) (t:=t) lr (n:=n.toNat) GC (ev σ x) (a.eval x);rw[<- hn]at fN;have lL:b<γ.w.heap.size:=(qf.1 lr).1;refine Lk (σ1:={ σ with aa:=σ.aa.set id (.mp ag (rI n.toNat (ev σ x) L)) }) (γ1:={ γ with w:={ γ.w with heap:=γ.w.heap.setIfInBounds b (.map (dT (eD ag (λj=>if j=n.toNat then a.eval x else f j) (rI n.toNat (ev σ x) L))) (rI n.toNat (ev σ x) L).length) } })
    (Fr.write (.mp ag (rI n.toNat (ev σ x) L)) ho GF rfl hb (λk hk=>by simp[xj (Ne.symm hk)]) GF rfl rfl rfl)
    (h.Ht (ob':=.mp ag (rI n.toNat (ev σ x) L)) ho GF rfl hb (λk hk=>by simp[xj (Ne.symm hk)]) GF λos' hR=>⟨b,λj=>if j=n.toNat then a.eval x else f j,hb,by simp only[Array.getElem?_setIfInBounds_self_of_lt lL],λp hp=>?_,λj p hp=>?_⟩) ha hd hK ?_
   ·unfold rI at hp;rcases tz hp with hp|hp
    ·exact hL p hp
    ·have qA:n.toNat<L.length:=GC;rw[hp,aA,bK qA];exact hL L[n.toNat] (List.getElem_mem qA)
   ·unfold rI at hp;simp only[cA]at hp;by_cases hj:n.toNat=j
    ·subst hj;rw[if_pos rfl,if_pos GC]at hp;cases hp;dsimp only;rw[if_pos rfl];exact hR _ _ (E x)
    ·rw[if_neg hj]at hp;dsimp only;rw[if_neg (Ne.symm hj)];exact hR _ _ (lu j p hp)
   ·simp only[execOp,bD,fM,Sem.run_bind,fN,Result.andThen_ok,Sem.run_pure]
  ·exact hW.elim
 case index t x i =>
  simp only at hW;split at hW
  ·rename_i s k n hs hi;obtain⟨⟨hu,ef,gp⟩,hK⟩:=hW;have hx:=E x;rw[hs]at hx;have hj:=E i;rw[hi]at hj;have br:n.toNat<s.size:=GC;have hg:s[n.toNat]?=some s[n.toNat]:=by simp[br]
   refine ej h ha hd (.lit _) hK ?_;simp only[execOp,hx.dz,hj.dz,Instr.index,asIntOf,Sem.run_bind,Sem.run_pure,Result.andThen_ok,run_underlying hu,if_pos ef,hg,KM]
  ·exact hW.elim
 case makeInterface t x =>
  simp only at hW;obtain⟨h1,hK⟩:=hW;refine ej h ha hd (v:=.jl t (ev σ x)) (cv:=.iface t (a.eval x)) (.jl _ _ _ (E x)) hK ?_;unfold xz at h1;cases hu:P.underlying t with
  |none=>simp[hu]at h1
  |some d=>cases d<;>simp[hu]at h1<;>simp[execOp,Instr.makeInterface,run_underlying hu]
 case typeAssert x xt asserted ok =>
  simp only at hW;have hx:=E x;split at hW
  ·rename_i t v he;rw[he]at hx;obtain⟨cx,hc,hv⟩:=hx.RG;obtain⟨⟨h1,rfl,rfl⟩,hK⟩:=hW;refine ej h ha hd hv hK ?_;unfold xz at h1;cases hu:P.underlying t with
   |none=>simp[hu]at h1
   |some d=>cases d<;>simp[hu]at h1<;>simp[execOp,hc,Instr.typeAssert,run_underlying hu]
  ·exact hW.elim
 case makeFunc fn first captured =>
  simp only at hW;split at hW
  ·rename_i f;obtain⟨hf,hK⟩:=hW;have hfe:first = #[]:=Array.eq_empty_of_size_eq_zero hf
   subst hfe;refine ej h ha hd (v:=.fn f (captured.toList.map (ev σ))) (cv:=.func (.func f) #[] (captured.map a.eval)) ?_ hK (by simp[execOp,Instr.makeFunc]);refine .fn _ _ _ GF (λj x hj=>?_);simp only[cj]at hj;cases hc:captured.toList[j]? with
   |none=>simp[hc]at hj
   |some y =>
    simp[hc]at hj;subst hj;simp only[Ds]at hc;simp[gm,hc];exact E y
  ·exact hW.elim
 case makeSlice t l c =>
  simp only at hW;have hl:=E l;have hc:=E c;split at hW
  ·rename_i z k n k' n' hk hz he hf;rw[he]at hl;rw[hf]at hc;obtain⟨⟨fA,h0,mn,rfl,ef,gp,Eb,_⟩,hK,_⟩:=hW;have ht:=uY hk;obtain⟨i,d,hi,Hp,uZ,Ec,hzero⟩:=u3 fA;obtain⟨zv,Az,kS⟩:∃zv,i.zero=some zv/\zv.cells=z.toArray:=by
    rw[hzero]at hz;cases hv:i.zero with
    |none=>simp[hv]at hz
    |some v=>simp[hv]at hz;exact⟨v,rfl,by rw[<- hz]⟩
   have hb:(i.bytes:Int)*n'<=281474976710656:=by
    have h1:(i.bytes:Int)<=128:=by rw[<- Ec];exact_mod_cast Eb
    have h2:(i.bytes:Int)*n'<=128*n':=Int.mul_le_mul_of_nonneg_right h1 ef;omega
   have hr:=run_make (P:=P) γ.w t _ i zv ht hi Az k k' n' n' ef (Int.le_refl _) hb GC;rw[<- uZ,kS]at hr;have Hq:0<z.length:=by rw[mn];exact h0
   obtain⟨z1,z2⟩:=Lh (os:=σ.aa) (w:=γ.w) (Z:=γ.Z) (blk:=γ.blk) z n'.toNat (n'.toNat*(ty P (ty P t).elem).size) (by rw[mn]) Hq;refine Hn (ob:=.arr (ty P (ty P t).elem).size (bH n'.toNat (z.map .lit))) (cv:=.slice (some ⟨γ.w.heap.size,0,none⟩) n'.toNat n'.toNat) (cap:=n'.toNat) (cur:=madeCells z.toArray (n'.toNat*(ty P (ty P t).elem).size)) (t:=(ty P t).elem) h ha hd ?_ ?_ hK ?_
   ·refine⟨h0,?_,by rw[size_madeCells];omega,GF,by unfold maxLen;omega,?_⟩
    ·intro row bq;simp only[List.mem_replicate]at bq;rw[bq.2];simp[mn]
    ·intro r c v hv;rw[gn];have cD:r<n'.toNat:=by
      simp only[cellAt,Option.bind_eq_some_iff]at hv;obtain⟨y,hy,_⟩:=hv;have:=(a8.1 hy).1;simpa using this
     simp only[cellAt,List.getElem?_replicate,cD,if_true,vQ]at hv;have cm:c<(ty P (ty P t).elem).size:=by
      have:=(a8.1 hv).1;simp at this;omega
     have br:=Ap cD cm;have hx:((aW n'.toNat).flatMap λ_=>z.map AV.lit)[r*(ty P (ty P t).elem).size+c]?=some v:=by
      have key:∀ (m r:Nat),r<m->((aW m).flatMap λ_=>z.map AV.lit)[r*z.length+c]?=(z.map AV.lit)[c]?:=by
       intro m;have hlen:∀ m,((aW m).flatMap λ_=>z.map AV.lit).length=m*z.length:=by
        intro m
        induction m with
        |zero=>simp
        |succ m ih=>rw[vV,rA,bQ,ih];simp[gR]
       induction m with
       |zero=>intro r hr;omega
       |succ m ih =>
        intro r hr;rw[vV,rA];by_cases pd:r<m
        ·rw[cT (by rw[hlen,mn];exact Ap pd cm)];exact ih r pd
        ·have:r=m:=GC;subst this;rw[fV (by rw[hlen];omega),hlen];simp
      rw[<- mn,key _ _ cD];exact hv
     exact z2 _ _ hx
   ·have:=aC.ref (os:=σ.aa++[.arr (ty P (ty P t).elem).size (bH n'.toNat (z.map .lit))]) (w:=γ.w.alloc (.cells (madeCells z.toArray (n'.toNat*(ty P (ty P t).elem).size)) (ty P t).elem)) (Z:=γ.Z) (blk:=dL γ.blk σ.aa.length (some (γ.w.heap.size,0,n'.toNat)))
     σ.aa.length (ty P (ty P t).elem).size 0 n'.toNat γ.w.heap.size 0 n'.toNat n'.toNat _ (Gy ..) (by simp[dL]) GF GC (aN _)
    simpa using this
   ·simp only[execOp,Sem.run_bind,hl.dz,hc.dz,hr,Result.andThen_ok,Sem.run_pure]
  ·exact hW.elim
 case fieldAddr s x f =>
  simp only at hW;have hx:=E x;split at hW
  ·rename_i off ft size hk fC;obtain⟨bx,hW⟩:=hW;obtain⟨fs,hu,xp⟩:=Ln hk;obtain⟨fd,Hv,Ak,j'⟩:∃fd:Field,fs[f]?=some fd/\fd.offset=off/\xH P fd.type=size:=by
    rw[xp]at fC;simp only[cj,Ds]at fC;cases hg:fs[f]? with
    |none=>simp[hg]at fC
    |some fd=>simp[hg]at fC;exact⟨fd,rfl,fC.1,fC.2.2⟩
   have fN:∀ (b o:Nat),(Instr.fieldAt s (.pointer (some ⟨b,o,none⟩)) f).run P γ.w=.ok (.pointer (some ⟨b,o+off,none⟩)) γ.w:=by
    intro b o;have hso:(sizeOf fd.type).run P γ.w=.ok size γ.w:=by
     rw[<- j'];unfold xH at j' ⊢;cases hi:P.info? fd.type with
     |none=>rw[hi]at j';simp at j';omega
     |some i=>simp[sizeOf,typeInfo,hi]
    have dO:¬ size=0:=GC;simp[Instr.fieldAt,run_underlying hu,Hv,Instr.sureAddr,fieldPlace,hso,dO,Addr.tM,Ak]
   split at hW
   ·rename_i id r c he;rw[he]at hx;cases ho:σ.aa[id]? with
    |none=>simp[ho]at hW
    |some ob =>
     have cY:ob≠.gone/\K (σ.put dst (.ptr id r (c+off))):=by cases ob<;>simp[ho]at hW ⊢<;>exact hW
     rcases hx.K5 with hg|⟨b,cap,cells,h1,h2,rfl,bD⟩|⟨sz,b,o,cap,rows,h1,h2,bD⟩
     ·rw[ho]at hg;simp at hg;exact absurd hg cY.1
     ·exact ej h ha hd (.oZ id (c+off) b cap cells h1 h2) cY.2 (by simp only[execOp,Sem.run_bind,bD,fN,Result.andThen_ok,Sem.run_pure])
     ·refine ej h ha hd (.pJ id r (c+off) sz b o cap rows h1 h2) cY.2 ?_;simp only[execOp,Sem.run_bind,bD,fN,Result.andThen_ok,Sem.run_pure];simp[yH]
   ·rename_i cells he;rw[he]at hx;obtain⟨b,o,g,bD,h1,h2,h3⟩:=hx.RS;refine ej h ha hd (.cq (cells.drop off) b (o+off) (λj=>g (off+j)) h1 ?_ ?_) hW ?_
    ·intro j x hj;rw[qc]at hj;have:=h2 _ _ hj;simpa [yH] using this
    ·intro j x hj;rw[qc]at hj;exact h3 _ _ hj
    ·simp only[execOp,Sem.run_bind,bD,fN,Result.andThen_ok,Sem.run_pure]
   ·exact hW.elim
  ·exact hW.elim
 case extract x i =>
  simp only at hW;have hx:=E x;split at hW
  ·rename_i vs he;rw[he]at hx;obtain⟨bG,bD,hs,hr⟩:=hx.Rt;split at hW
   ·rename_i v hv;have hi:i<bG.size:=by rw[hs];exact(a8.1 hv).1
    refine ej h ha hd (hr i v hv) hW ?_;simp[execOp,bD,Instr.extract,hi,gm]
   ·exact hW.elim
  ·exact hW.elim
 case field s x f =>
  simp only at hW;have hx:=E x;split at hW
  ·rename_i off ft size hk fC;obtain⟨fA,uZ,hW⟩:=hW;obtain⟨fs,hu,xp⟩:=Ln hk;obtain⟨fd,Hv,Ak,j'⟩:∃fd:Field,fs[f]?=some fd/\fd.offset=off/\fd.type=ft:=by
    rw[xp]at fC;simp only[cj,Ds]at fC;cases hg:fs[f]? with
    |none=>simp[hg]at fC
    |some fd=>simp[hg]at fC;exact⟨fd,rfl,fC.1,fC.2.1⟩
   subst Ak;subst j';split at hW
   ·rename_i cs he;rw[he]at hx;obtain⟨bG,bD,hs,hr⟩:=hx.Rs;split at hW
    ·rename_i lM;refine ej h ha hd (v:=.agg ((cs.drop fd.offset).take size)) (cv:=.agg (bG.extract fd.offset (fd.offset+size))) ?_ hW.2 ?_
     ·have h1:=hW.1;refine .agg _ _ aar (λj y hj=>?_);have lK:j<size:=by have:=(a8.1 hj).1;simp at this;omega
      rw[vS,if_pos lK,qc]at hj;have:=hr _ _ hj;simp[gm,Array.getElem?_extract]at this ⊢;rw[if_pos GC];exact this
     ·simp[execOp,bD,Instr.field,run_underlying hu,Hv,asAgg,part,Lo fA,run_sizeOf fA,lM,uZ]
    ·rename_i lM;split at hW
     ·rename_i v hv;have hi:fd.offset<bG.size:=by rw[hs];exact(a8.1 hv).1
      refine ej h ha hd (hr _ v hv) hW ?_;simp[execOp,bD,Instr.field,run_underlying hu,Hv,asAgg,part,Lo fA,lM,hi,gm]
     ·exact hW.elim
   ·exact hW.elim
  ·exact hW.elim
 case indexAddr t x i =>
  simp only at hW;have hx:=E x;have hi:=E i;split at hW
  ·rename_i id sz off len k n hk he hf;rw[he]at hx;rw[hf]at hi;split at hW
   ·rename_i dK rows ho;obtain⟨⟨rfl,bx,fA,h0,h1⟩,hK⟩:=hW;have ht:=uY hk;rcases hx.K6 with hg|⟨_,_,_,rfl,_⟩|⟨rfl,_⟩|⟨b,o,cap,cap',iI,g1,g2,g3,g4,g5,bD⟩
    ·rw[ho]at hg;simp at hg
    ·omega
    ·omega
    ·refine ej h ha hd (.pJ id (off+n.toNat) 0 _ b o cap iI g1 g2) hK ?_;have hc:0<=n/\n<(len:Int):=⟨h0,h1⟩;simp only[execOp,Sem.run_bind,Instr.indexAt,bD,hi.dz,asIntOf,Sem.run_pure,Result.andThen_ok,run_underlying ht,Sem.run_ite,hc,and_self,if_true,run_sizeOf fA,<- bx,Addr.tM];simp[gR,yH]
   ·exact hW.elim
  ·rename_i sz rows k n hk he hf;rw[he]at hx;rw[hf]at hi;obtain⟨⟨bx,fA,h0,h1⟩,hK⟩:=hW;have ht:=uY hk;rcases hx.Ao.inv with⟨ad,cap,rfl,bD⟩|⟨b,o,cap,f,bD,g1,g2,g3,g4,g5⟩
   ·simp at h1;omega
   ·have hn:n.toNat<rows.length:=GC;refine ej h ha hd (.cq (rows.getD n.toNat []) b (o+n.toNat*sz) (λj=>f n.toNat j) g1 ?_ ?_) hK ?_
    ·intro j y hj;have:cellAt rows n.toNat j=some y:=by
      rw[aA]at hj;simp[hn]at hj;simp[cellAt,hn,hj]
     have:=g4 _ _ _ this;simpa [yH] using this
    ·intro j y hj;have:cellAt rows n.toNat j=some y:=by
      rw[aA]at hj;simp[hn]at hj;simp[cellAt,hn,hj]
     exact g5 _ _ _ this
    ·have hc:0<=n/\n<(rows.length:Int):=⟨h0,GC⟩;simp only[execOp,Sem.run_bind,Instr.indexAt,bD,hi.dz,asIntOf,Sem.run_pure,Result.andThen_ok,run_underlying ht,Sem.run_ite,hc,and_self,if_true,run_sizeOf fA,<- bx,Addr.tM]
  ·rename_i id r c k n hk he hf;rw[he]at hx;rw[hf]at hi;cases ho:σ.aa[id]? with
   |none=>simp[ho]at hW
   |some ob =>
    have cY:ob≠.gone/\((ty P (ty P t).elem).kind≠99/\0<=n/\n<(ty P t).len)/\K (σ.put dst (.ptr id r (c+n.toNat*(ty P (ty P t).elem).size))):=by cases ob<;>simp[ho]at hW ⊢<;>exact hW
    obtain⟨pM,⟨fA,h0,h1⟩,hK⟩:=cY;have ht:=RW hk;have hc:0<=n/\n<((ty P t).len:Int):=⟨h0,h1⟩;rcases hx.K5 with hg|⟨b,cap,cells,h1,h2,rfl,bD⟩|⟨sz,b,o,cap,rows,h1,h2,bD⟩
    ·rw[ho]at hg;simp at hg;exact absurd hg pM
    ·refine ej h ha hd (.oZ id _ b cap cells h1 h2) hK ?_;simp only[execOp,Sem.run_bind,Instr.indexAt,bD,hi.dz,asIntOf,Sem.run_pure,Result.andThen_ok,run_underlying ht,Instr.sureAddr,Sem.run_ite,hc,and_self,if_true,run_sizeOf fA,Addr.tM]
    ·refine ej h ha hd (.pJ id r _ sz b o cap rows h1 h2) hK ?_;simp only[execOp,Sem.run_bind,Instr.indexAt,bD,hi.dz,asIntOf,Sem.run_pure,Result.andThen_ok,run_underlying ht,Instr.sureAddr,Sem.run_ite,hc,and_self,if_true,run_sizeOf fA,Addr.tM];simp[yH]
  ·exact hW.elim
 case slice t x lo hi mx =>
  simp only at hW;obtain⟨hk,fA,rfl,hW⟩:=hW;have ht:=uY hk;have hx:=E x;have fN:∀ (ad:Option Addr) (len cap l h:Nat) (lo hi:Option Value),(lo=none/\l=0\/∃ k,lo=some (.int k (l:Int)))->(hi=none/\h=len\/∃ k,hi=some (.int k (h:Int)))->l<=h->h<=cap ->
    (ty P (ty P t).elem).kind≠99->(Instr.sliceAt t (.slice ad len cap) lo hi none).run P γ.w=.ok (.slice (if cap=l then ad else ad.map (·.add (l*(ty P (ty P t).elem).size))) (h-l) (cap-l)) γ.w:=by
   intro ad len cap l h lo hi jv pN h1 h2 fA;have c1:(l:Int)<=h:=GC;have c2:(h:Int)<=cap:=GC;rcases jv with⟨rfl,rfl⟩|⟨k,rfl⟩<;>rcases pN with⟨rfl,rfl⟩|⟨k',rfl⟩ <;>
    simp[Instr.sliceAt,Instr.slice,Instr.sliceBounds,Instr.sliceBound,asIntOf,run_underlying ht,run_sizeOf fA,h1,h2]
  split at hW
  ·rename_i id sz off len he;rw[he]at hx;split at hW
   ·rename_i dK rows ho;obtain⟨rfl,bx,hW⟩:=hW;obtain⟨h0,cD,_⟩:=h.fL _ _ ho;have key:∀ (l hh:Nat) (mN hi':Option Operand),(mN.map a.eval=none/\l=0\/∃ k,mN.map a.eval=some (.int k (l:Int)))->(hi'.map a.eval=none/\hh=len\/∃ k,hi'.map a.eval=some (.int k (hh:Int)))->l<=hh->hh<=len ->
      K (σ.put dst (.ref id dK (off+l) (hh-l)))->Av ⟨dst,.slice t x mN hi' none,type,pos,after,guard⟩ σ γ a K ((execOp a.eval ⟨dst,.slice t x mN hi' none,type,pos,after,guard⟩).run P γ.w):=by
     intro l hh mN hi' jv pN h1 h2 hK;rcases hx.K6 with hg|⟨g1,g2,rfl,rfl,bD⟩|⟨rfl,b,xx,bo,iI,g1,g2,g3,bD⟩|⟨b,o,cap,cap',iI,g1,g2,g3,g4,g5,bD⟩
     ·rw[ho]at hg;simp at hg
     ·have:l=0:=GC;subst this;have:hh=0:=GC;subst this;refine ej (o:=⟨dst,.slice t x mN hi' none,type,pos,after,guard⟩) h ha hd (.nN id _ g1 g2) hK ?_;have:=fN none 0 0 0 0 _ _ jv pN GC GC fA;simp only[execOp,Sem.run_bind,bD,oU,this,Result.andThen_ok,Sem.run_pure];simp
     ·have:l=0:=GC;subst this;have:hh=0:=GC;subst this;refine ej (o:=⟨dst,.slice t x mN hi' none,type,pos,after,guard⟩) h ha hd (.ow id _ _ b xx bo iI g1 g2 GC) hK ?_;have:=fN (some ⟨b,xx,none⟩) 0 0 0 0 _ _ jv pN GC GC fA;simp only[execOp,Sem.run_bind,bD,oU,this,Result.andThen_ok,Sem.run_pure];simp
     ·have hr:=fN (some ⟨b,o+off*dK,none⟩) len cap' l hh _ _ jv pN h1 GC fA;by_cases hm:cap'=l
      ·have e1:hh=l:=GC;subst e1;rw[if_pos hm]at hr;have e2:hh-hh=0:=GC;have e3:cap'-hh=0:=GC;rw[e2,e3]at hr;rw[e2]at hK;refine ej (o:=⟨dst,.slice t x mN hi' none,type,pos,after,guard⟩) h ha hd (.ow id _ _ b (o+off*dK) (o,cap) iI g1 g2 GC) hK ?_;simp only[execOp,Sem.run_bind,bD,oU,hr,Result.andThen_ok,Sem.run_pure]
      ·rw[if_neg hm]at hr;refine ej (o:=⟨dst,.slice t x mN hi' none,type,pos,after,guard⟩) h ha hd (.ref id _ (off+l) (hh-l) b o cap (cap'-l) iI g1 g2 GC GC GC) hK ?_;simp only[execOp,Sem.run_bind,bD,oU,hr,Result.andThen_ok,Sem.run_pure,fl,Addr.tM,<- bx];simp[gR,yH]
    split at hW
    ·rename_i e1 e2;have jv:lo=none:=by cases lo<;>simp at e1 ⊢
     have pN:hi=none:=by cases hi<;>simp at e2 ⊢
     subst jv;subst pN;exact key 0 len none none (.inl ⟨rfl,rfl⟩) (.inl ⟨rfl,rfl⟩) GC (aN _) (by simpa using hW)
    ·rename_i k l e1 e2;have pN:hi=none:=by cases hi<;>simp at e2 ⊢
     subst pN;obtain⟨lo,rfl,f1⟩:∃y,lo=some y/\ev σ y=.lit (.int k l):=by cases lo<;>simp at e1 ⊢;exact e1
     obtain⟨⟨c1,c2,_⟩,hK⟩:=hW;have hl:=E lo;rw[f1]at hl;refine key l.toNat len (some lo) none (.inr ⟨k,?_⟩) (.inl ⟨rfl,rfl⟩) GC (aN _) hK;simp[hl.dz];omega
    ·rename_i k hh e1 e2;have jv:lo=none:=by cases lo<;>simp at e1 ⊢
     subst jv;obtain⟨hi,rfl,f2⟩:∃y,hi=some y/\ev σ y=.lit (.int k hh):=by cases hi<;>simp at e2 ⊢;exact e2
     obtain⟨⟨c1,c2⟩,hK⟩:=hW;have hl:=E hi;rw[f2]at hl;refine key 0 hh.toNat none (some hi) (.inl ⟨rfl,rfl⟩) (.inr ⟨k,?_⟩) GC GC (by simpa using hK);simp[hl.dz];omega
    ·rename_i k l k' hh e1 e2;obtain⟨lo,rfl,f1⟩:∃y,lo=some y/\ev σ y=.lit (.int k l):=by cases lo<;>simp at e1 ⊢;exact e1
     obtain⟨hi,rfl,f2⟩:∃y,hi=some y/\ev σ y=.lit (.int k' hh):=by cases hi<;>simp at e2 ⊢;exact e2
     obtain⟨⟨c1,c2,c3⟩,hK⟩:=hW;have hl:=E lo;have Ed:=E hi;rw[f1]at hl;rw[f2]at Ed;refine key l.toNat hh.toNat (some lo) (some hi) (.inr ⟨k,?_⟩) (.inr ⟨k',?_⟩) GC GC hK
     ·simp[hl.dz];omega
     ·simp[Ed.dz];omega
    ·exact hW.elim
   ·exact hW.elim
  ·rename_i sz rows he;rw[he]at hx;obtain⟨bx,hW⟩:=hW;have key:∀ (l hh:Nat) (mN hi':Option Operand),(mN.map a.eval=none/\l=0\/∃ k,mN.map a.eval=some (.int k (l:Int)))->(hi'.map a.eval=none/\hh=rows.length\/∃ k,hi'.map a.eval=some (.int k (hh:Int)))->l<=hh->hh<=rows.length ->
     K (σ.put dst (.tree sz ((rows.drop l).take (hh-l))))->Av ⟨dst,.slice t x mN hi' none,type,pos,after,guard⟩ σ γ a K ((execOp a.eval ⟨dst,.slice t x mN hi' none,type,pos,after,guard⟩).run P γ.w):=by
    intro l hh mN hi' jv pN h1 h2 hK;rcases hx.Ao.inv with⟨ad,cap,rfl,bD⟩|⟨b,o,cap,f,bD,g1,g2,g3,g4,g5⟩
    ·have e1:hh=0:=by simpa using h2
     subst e1;have e2:l=0:=GC;subst e2;have hr:=fN ad 0 cap 0 0 _ _ jv pN GC GC fA;refine ej (o:=⟨dst,.slice t x mN hi' none,type,pos,after,guard⟩) h ha hd (v:=.tree sz (([].drop 0).take (0-0))) (cv:=.slice (if cap=0 then ad else ad.map (·.add (0*(ty P (ty P t).elem).size))) (0-0) (cap-0)) (.cC _ _ (.nil sz (cap-0) _)) hK ?_;simp only[execOp,Sem.run_bind,bD,oU,hr,Result.andThen_ok,Sem.run_pure]
    ·have hr:=fN (some ⟨b,o,none⟩) rows.length cap l hh _ _ jv pN h1 GC fA;by_cases pO:hh-l=0
     ·have e:(rows.drop l).take (hh-l)=[]:=by rw[pO];simp
      rw[e]at hK;rw[pO]at hr;refine ej (o:=⟨dst,.slice t x mN hi' none,type,pos,after,guard⟩) h ha hd (v:=.tree sz []) (cv:=.slice (if cap=l then some ⟨b,o,none⟩ else(some (⟨b,o,none⟩:Addr)).map (·.add (l*(ty P (ty P t).elem).size))) 0 (cap-l)) (.cC _ _ (.nil sz (cap-l) _)) hK ?_;simp only[execOp,Sem.run_bind,bD,oU,hr,Result.andThen_ok,Sem.run_pure]
     ·have dO:¬ cap=l:=GC;rw[if_neg dO]at hr;have aeS:rows≠[]:=by intro e;subst e;simp at h2;omega
      refine ej (o:=⟨dst,.slice t x mN hi' none,type,pos,after,guard⟩) h ha hd (.cC _ _ (jf.sub g1 g2 g4 g5 l (hh-l) (cap':=cap-l) GC g3 GC)) hK ?_;simp only[execOp,Sem.run_bind,bD,oU,hr,Result.andThen_ok,Sem.run_pure,fl,Addr.tM,<- bx aeS]
   split at hW
   ·rename_i e1 e2;have jv:lo=none:=by cases lo<;>simp at e1 ⊢
    have pN:hi=none:=by cases hi<;>simp at e2 ⊢
    subst jv;subst pN;exact key 0 rows.length none none (.inl ⟨rfl,rfl⟩) (.inl ⟨rfl,rfl⟩) GC (aN _) (by simpa using hW)
   ·rename_i k l e1 e2;have pN:hi=none:=by cases hi<;>simp at e2 ⊢
    subst pN;obtain⟨lo,rfl,f1⟩:∃y,lo=some y/\ev σ y=.lit (.int k l):=by cases lo<;>simp at e1 ⊢;exact e1
    obtain⟨⟨c1,c2⟩,hK⟩:=hW;have hl:=E lo;rw[f1]at hl;refine key l.toNat rows.length (some lo) none (.inr ⟨k,?_⟩) (.inl ⟨rfl,rfl⟩) GC (aN _) ?_
    ·simp[hl.dz];omega
    ·have e:(rows.drop l.toNat).take (rows.length-l.toNat)=rows.drop l.toNat:=List.take_of_length_le GF;rw[e];exact hK
   ·rename_i k hh e1 e2;have jv:lo=none:=by cases lo<;>simp at e1 ⊢
    subst jv;obtain⟨hi,rfl,f2⟩:∃y,hi=some y/\ev σ y=.lit (.int k hh):=by cases hi<;>simp at e2 ⊢;exact e2
    obtain⟨⟨c1,c2⟩,hK⟩:=hW;have hl:=E hi;rw[f2]at hl;refine key 0 hh.toNat none (some hi) (.inl ⟨rfl,rfl⟩) (.inr ⟨k,?_⟩) GC GC (by simpa using hK);simp[hl.dz];omega
   ·rename_i k l k' hh e1 e2;obtain⟨lo,rfl,f1⟩:∃y,lo=some y/\ev σ y=.lit (.int k l):=by cases lo<;>simp at e1 ⊢;exact e1
    obtain⟨hi,rfl,f2⟩:∃y,hi=some y/\ev σ y=.lit (.int k' hh):=by cases hi<;>simp at e2 ⊢;exact e2
    obtain⟨⟨c1,c2,c3⟩,hK⟩:=hW;have hl:=E lo;have Ed:=E hi;rw[f1]at hl;rw[f2]at Ed;refine key l.toNat hh.toNat (some lo) (some hi) (.inr ⟨k,?_⟩) (.inr ⟨k',?_⟩) GC GC ?_
    ·simp[hl.dz];omega
    ·simp[Ed.dz];omega
    ·rw[<- List.drop_take];exact hK
   ·exact hW.elim
  ·exact hW.elim
 case call c =>
  obtain⟨callee,args,argTypes⟩:=c;have oX:∀ l,args.toList=l->args=l.toArray:=by intro l h;rw[<- h]
  have Hw:∀ l,argTypes.toList=l->argTypes=l.toArray:=by intro l h;rw[<- h]
  cases callee with
  |value f=>exact hW.elim
  |invoke r m=>exact hW.elim
  |builtin b =>
   cases b
   case len =>
    simp only at hW;split at hW
    ·rename_i x t dw lH;have ea:=oX _ dw;have et:=Hw _ lH;subst ea;subst et;have hx:=E x;have fN:(ty P t).kind=1->∀ ad n c,a.eval x=.slice ad n c->(execOp a.eval ⟨dst,.call ⟨.builtin .len,[x].toArray,[t].toArray⟩,type,pos,after,guard⟩).run P γ.w=.ok (.value (.int .i64 (n:Int))) γ.w:=by
      intro hk ad n c hc;have ht:=uY hk;simp[execOp,resolve,invoke,builtin,Builtin.len_,run_underlying ht,hc,goInt]
     split at hW
     ·rename_i id sz off len he;rw[he]at hx;obtain⟨hk,hW⟩:=hW;split at hW
      ·rename_i dK rows ho;rcases hx.K6 with hg|⟨_,_,_,rfl,bD⟩|⟨rfl,_,_,_,_,_,_,_,bD⟩|⟨b,o,cap,cap',iI,g1,g2,g3,g4,g5,bD⟩
       ·rw[ho]at hg;simp at hg
       ·exact ej h ha hd (.lit _) hW.2 (fN hk _ _ _ bD)
       ·exact ej h ha hd (.lit _) hW.2 (fN hk _ _ _ bD)
       ·exact ej h ha hd (.lit _) hW.2 (fN hk _ _ _ bD)
      ·exact hW.elim
     ·rename_i sz rows he;rw[he]at hx;rcases hx.Ao.inv with⟨ad,cap,rfl,bD⟩|⟨b,o,cap,f,bD,_⟩
      ·exact ej h ha hd (.lit _) hW.2 (fN hW.1 _ _ _ bD)
      ·exact ej h ha hd (.lit _) hW.2 (fN hW.1 _ _ _ bD)
     ·rename_i he;rw[he]at hx;exact ej h ha hd (.lit _) hW.2 (fN hW.1 _ _ _ hx.dz)
     ·rename_i id he;obtain⟨hk,hW⟩:=hW;split at hW
      ·rename_i ag L ho;obtain⟨kt,ht⟩:=K' hk;rw[he]at hx;obtain⟨_,_,b,f,hb,bD,lr,_⟩:=D3 h hx (id:=id) (ag:=ag) (L:=L) (by simp[ng,ho]);refine ej h ha hd (.lit _) hW ?_;simp[execOp,resolve,invoke,builtin,Builtin.len_,run_underlying ht,bD,goInt,MapKept.run_getObj_map lr,dT,Aw]
      ·exact hW.elim
     ·exact hW.elim
    ·exact hW.elim
   case append =>
    simp only at hW;split at hW
    ·rename_i s x t t' dw lH;have ea:=oX _ dw;have et:=Hw _ lH;subst ea;subst et;split at hW
     ·rename_i z pre σ1 sz src hk hz D1 uU;obtain⟨⟨rfl,fA,bx,h0,mn,hlen,Eb,oC⟩,hK⟩:=hW;have aeT:sM σ sz (ev σ s)=some (pre,σ1):=by rw[bx];exact D1
      obtain⟨qC,γ1,h1,h2,h3,h4,h5⟩:=aeU (P:=P) (oty:=type) h hk fA hz bx h0 mn (E s) (E x) aeT uU hlen Eb oC;refine B3 (γ1:=γ1) h4 h3 (by rw[h2];exact ha) hd h5 hK ?_;simp[execOp,resolve,invoke,builtin,h1]
     ·exact hW.elim
    ·exact hW.elim
   case min =>
    simp only at hW;split at hW
    ·rename_i x y dw;have ea:=oX _ dw;subst ea;have hx:=E x;have hy:=E y;split at hW
     ·rename_i k p k' q he hf;rw[he]at hx;rw[hf]at hy;obtain⟨rfl,hK⟩:=hW;refine ej h ha hd (.lit _) hK ?_;have e:(if q<p then q else p)=min p q:=by simp only[Int.min_def];split<;>split<;>omega
      simp[execOp,resolve,invoke,builtin,Builtin.min_,Builtin.min2,hx.dz,hy.dz,e]
     ·exact hW.elim
    ·exact hW.elim
   case max =>
    simp only at hW;split at hW
    ·rename_i x y dw;have ea:=oX _ dw;subst ea;have hx:=E x;have hy:=E y;split at hW
     ·rename_i k p k' q he hf;rw[he]at hx;rw[hf]at hy;obtain⟨rfl,hK⟩:=hW;refine ej h ha hd (.lit _) hK ?_;have e:(if q > p then q else p)=max p q:=by simp only[Int.max_def];split<;>split<;>omega
      simp[execOp,resolve,invoke,builtin,Builtin.max_,Builtin.max2,hx.dz,hy.dz,e]
     ·exact hW.elim
    ·exact hW.elim
   case copy =>
    simp only at hW;split at hW
    ·rename_i s x t t' dw lH;have ea:=oX _ dw;have et:=Hw _ lH;subst ea;subst et;have hs:=E s;split at hW
     ·rename_i id sz off len dK src he uU;rw[he]at hs;split at hW
      ·rename_i mg rows ho;obtain⟨⟨hk,fA,rfl,rfl,bx,h0,oC⟩,hK⟩:=hW;obtain⟨w',h1,h2,h3⟩:=aeV (P:=P) (t':=t') (oty:=type) h hk fA bx h0 hs (E x) ho uU oC;refine B3 (γ1:={ γ with w:=w' }) h3 h2 ha hd (.lit _) hK ?_;simp[execOp,resolve,invoke,builtin,h1]
      ·exact hW.elim
     ·exact hW.elim
    ·exact hW.elim
   case clear =>
    simp only at hW;split at hW
    ·rename_i s t dw lH;have ea:=oX _ dw;have et:=Hw _ lH;subst ea;subst et;have hs:=E s;split at hW
     ·rename_i id sz off len z he hz;rw[he]at hs;split at hW
      ·rename_i dK rows ho;obtain⟨⟨hk,fA,rfl,mn,h0,Hx⟩,hK⟩:=hW;obtain⟨w',h1,h2,h3⟩:=aeW (P:=P) (oty:=type) h hk fA mn h0 hz Hx hs ho;refine B3 (γ1:={ γ with w:=w' }) h3 h2 ha hd (.lit _) hK ?_;simp[execOp,resolve,invoke,builtin,h1]
      ·exact hW.elim
     ·exact hW.elim
    ·exact hW.elim
   all_goals exact hW.elim
 case convert s d x =>
  simp only at hW;have hx:=E x;split at hW
  ·rename_i k k' n uR he;rw[he]at hx;obtain⟨hu,hK⟩:=hW;obtain⟨u,hu⟩:=Option.isSome_iff_exists.1 hu;refine ej h ha hd (.lit _) hK ?_;simp[execOp,convert,run_underlying hu,run_underlying uR,hx.dz,Conv.intToInt]
  ·exact hW.elim
 all_goals exact hW.elim
end Go.Am

