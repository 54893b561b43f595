import Derived.Test.YtfoopmojjjpapaaGreatX02
import Derived.MapKept
import Derived.Laws.StructEq
set_option linter.all false
set_option maxHeartbeats 0
set_option maxRecDepth 20000
open List renaming getElem?_take→wA,getElem?_drop→nM,getElem?_set→bU,getElem?_eq_some_iff→aV,length_append→bO,length_singleton→Ca,mem_append→cG,mem_singleton→cV,getElem?_append_left→eZ,getElem?_append_right→iA,getElem?_cons_zero→uY,ext_getElem?→kY,length_set→bJ,mem_or_eq_of_mem_set→su,getElem?_eq_getElem→bF,getD_eq_getElem?_getD→az,getElem?_concat_length→GF,getElem?_map→bI,replicate→aK,range→bu,range_succ→u3,flatMap_append→sv
open Nat renaming add_mul→gn,le_refl→aY,sub_self→jz,ne_of_lt→oG,lt_or_ge→dP,sub_zero→wB,zero_add→gJ,add_assoc→xT
open Option renaming some→cA,map_some→eH,map_none→qT,getD_some→lV,bind_some→tH
open Array renaming range→Kf,getElem?_eq_some_iff→mW,getElem?_setIfInBounds_ne→uZ,getElem?_toList→DU,getD_eq_getD_getElem?→eL
namespace Go.Am
def afn{P:Program}(w:World)(t e:TypeId)(a:Option Addr)(n c:Nat)(ht:P.underlying t=some (.slice e)):
  (binOp .eql t (.slice a n c) (.slice none 0 0)).run P w=.ok (.bool a.isNone) w:=by
 have h:∀ d:Nat,(Op.equalIn (d+1) t (.slice a n c) (.slice none 0 0)).run P w=.ok a.isNone w:=λd=>by
  cases a<;>simp[Op.equalIn,run_underlying ht]
 simp only[binOp];simp[Op.equal,Op.maxDepth,h 9999]
def afo{P:Program}(w:World)(t e:TypeId)(a:Option Addr)(n c:Nat)(ht:P.underlying t=some (.slice e)):
  (binOp .neq t (.slice a n c) (.slice none 0 0)).run P w=.ok (.bool (!a.isNone)) w:=by
 have h:∀ d:Nat,(Op.equalIn (d+1) t (.slice a n c) (.slice none 0 0)).run P w=.ok a.isNone w:=λd=>by
  cases a<;>simp[Op.equalIn,run_underlying ht]
 simp only[binOp];simp[Op.equal,Op.maxDepth,h 9999]
variable {P:Program}
def afp(w:World)(t:TypeId){e:TypeId}(a:Addr)(n c:Nat)(ht:P.underlying t=some (.slice e)):
  (binOp .eql t (.slice (some a) n c) (.slice none 0 0)).run P w=.ok (.bool false) w:=by
 have h:∀ d:Nat,(Op.equalIn (d+1) t (.slice (some a) n c) (.slice none 0 0)).run P w=.ok false w:=λd=>by
  simp[Op.equalIn,run_underlying ht]
 simp only[binOp];simp[Op.equal,Op.maxDepth,h 9999]
def afq(w:World)(t:TypeId){e:TypeId}(a:Addr)(n c:Nat)(ht:P.underlying t=some (.slice e)):
  (binOp .neq t (.slice (some a) n c) (.slice none 0 0)).run P w=.ok (.bool true) w:=by
 have h:∀ d:Nat,(Op.equalIn (d+1) t (.slice (some a) n c) (.slice none 0 0)).run P w=.ok false w:=λd=>by
  simp[Op.equalIn,run_underlying ht]
 simp only[binOp];simp[Op.equal,Op.maxDepth,h 9999]
def aw.Lk{os:List Ob}{w:World}{Z:Nat->Prop}{blk:gB}{id r c:Nat}{cv:Value}(h:aw os w Z blk (.ptr id r c) cv):
  os[id]?=some .gone\/(∃ b cap cells,os[id]?=some (.var cells)/\blk id=some (b,0,cap)/\r=0/\cv=.pointer (some ⟨b,c,none⟩)) \/
  (∃ sz b o cap rows,os[id]?=some (.arr sz rows)/\blk id=some (b,o,cap)/\cv=.pointer (some ⟨b,o+(r*sz+c),none⟩)):=by
 cases h with
 |cO _ _ h=>cases h
 |nV _ _ _ _ h=>exact .inl h
 |oN _ _ b cap cells h hb=>exact .inr (.inl ⟨b,cap,cells,h,hb,rfl,rfl⟩)
 |py _ _ _ sz b o cap rows h hb=>exact .inr (.inr ⟨sz,b,o,cap,rows,h,hb,rfl⟩)
def aw.Ll{os:List Ob}{w:World}{Z:Nat->Prop}{blk:gB}{cells:List AV}{cv:Value}(h:aw os w Z blk (.cB cells) cv):
  ∃ b o,∃ f:Nat->Value,cv=.pointer (some ⟨b,o,none⟩)/\Z b/\(∀ j x,cells[j]?=some x->w.cell? ⟨b,o+j,none⟩=some (f j))/\∀ j x,cells[j]?=some x->iB w Z x (f j):=by
 cases h with
 |cO _ _ h=>cases h
 |cB _ b o f h1 h2 h3=>exact⟨b,o,f,rfl,h1,h2,h3⟩
def aw.Lm{os:List Ob}{w:World}{Z:Nat->Prop}{blk:gB}{id sz off len:Nat}{cv:Value}(h:aw os w Z blk (.ref id sz off len) cv):
  os[id]?=some .gone\/(os[id]?=some (.arr sz [])/\blk id=none/\off=0/\len=0/\cv=.slice none 0 0) \/
  (len=0/\∃ b x bo rows,os[id]?=some (.arr sz rows)/\blk id=some (b,bo)/\off<=rows.length/\cv=.slice (some ⟨b,x,none⟩) 0 0) \/
  (∃ b o cap cap' rows,os[id]?=some (.arr sz rows)/\blk id=some (b,o,cap)/\off+len<=rows.length/\off+cap'<=cap/\len<=cap'/\cv=.slice (some ⟨b,o+off*sz,none⟩) len cap'):=by
 cases h with
 |cO _ _ h=>cases h
 |k9 _ _ _ _ _ h=>exact .inl h
 |mK _ _ h hb=>exact .inr (.inl ⟨h,hb,rfl,rfl,rfl⟩)
 |nj _ _ _ b x bo rows h hb hl=>exact .inr (.inr (.inl ⟨rfl,b,x,bo,rows,h,hb,hl,rfl⟩))
 |ref _ _ _ _ b o cap cap' rows h hb hl hc jV=>exact .inr (.inr (.inr ⟨b,o,cap,cap',rows,h,hb,hl,hc,jV,rfl⟩))
def aw.RQ{os:List Ob}{w:World}{Z:Nat->Prop}{blk:gB}{cs:List AV}{cv:Value}(h:aw os w Z blk (.agg cs) cv):
  ∃ bm,cv=.agg bm/\bm.size=cs.length/\∀ j x,cs[j]?=some x->aw os w Z blk x (bm.getD j Go.undef):=by
 cases h with
 |cO _ _ h=>cases h
 |agg _ bm h1 h2=>exact⟨bm,rfl,h1,h2⟩
def aw.RR{os:List Ob}{w:World}{Z:Nat->Prop}{blk:gB}{cs:List AV}{cv:Value}(h:aw os w Z blk (.bD cs) cv):
  ∃ bm,cv=.tuple bm/\bm.size=cs.length/\∀ j x,cs[j]?=some x->aw os w Z blk x (bm.getD j Go.undef):=by
 cases h with
 |cO _ _ h=>cases h
 |bD _ bm h1 h2=>exact⟨bm,rfl,h1,h2⟩
def aw.R0{os:List Ob}{w:World}{Z:Nat->Prop}{blk:gB}{f:FuncId}{cs:List AV}{cv:Value}(h:aw os w Z blk (.fn f cs) cv):
  ∃ bm,cv=.func (.func f) #[] bm/\bm.size=cs.length/\∀ j x,cs[j]?=some x->aw os w Z blk x (bm.getD j Go.undef):=by
 cases h with
 |cO _ _ h=>cases h
 |fn _ _ bm h1 h2=>exact⟨bm,rfl,h1,h2⟩
def aw.R2{os:List Ob}{w:World}{Z:Nat->Prop}{blk:gB}{t:TypeId}{v:AV}{cv:Value}(h:aw os w Z blk (.iC t v) cv):∃x,cv=.iface t x/\aw os w Z blk v x:=by
 cases h with
 |cO _ _ h=>cases h
 |iC _ _ x h=>exact⟨x,rfl,h⟩
def iB.inv{w:World}{Z:Nat->Prop}{sz:Nat}{rows:List (List AV)}{cv:Value}(h:iB w Z (.tree sz rows) cv):
  (∃ a cap,rows=[]/\cv=.slice a 0 cap)\/∃ b o cap,∃ f:Nat->Nat->Value,cv=.slice (some ⟨b,o,none⟩) rows.length cap/\Z b/\(∀ row∈rows,row.length=sz)/\rows.length<=cap /\
   (∀ r c x,cellAt rows r c=some x->w.cell? ⟨b,o+(r*sz+c),none⟩=some (f r c))/\∀ r c x,cellAt rows r c=some x->iB w Z x (f r c):=by
 cases h with
 |nil _ cap a=>exact .inl ⟨a,cap,rfl,rfl⟩
 |tree _ _ b o cap f h1 h2 h3 h4 h5=>exact .inr ⟨b,o,cap,f,rfl,h1,h2,h3,h4,h5⟩
def iB.sub{w:World}{Z:Nat->Prop}{sz:Nat}{rows:List (List AV)}{b o cap cap':Nat}{f:Nat->Nat->Value}(hz:Z b)(hr:∀ row∈rows,row.length=sz)(hc:∀ r c x,cellAt rows r c=some x->w.cell? ⟨b,o+(r*sz+c),none⟩=some (f r c))(ht:∀ r c x,cellAt rows r c=some x->iB w Z x (f r c))(lo n:Nat)(hn:n<=cap')(_hcap:rows.length<=cap)(jL:lo+n<=rows.length):
  iB w Z (.tree sz ((rows.drop lo).take n)) (.slice (some ⟨b,o+lo*sz,none⟩) n cap'):=by
 have hlen:((rows.drop lo).take n).length=n:=P2;have wJ:∀ r c x,cellAt ((rows.drop lo).take n) r c=some x->cellAt rows (lo+r) c=some x:=by
  intro r c x hx;simp only[cellAt,wA,nM]at hx;split at hx
  ·exact hx
  ·simp at hx
 have:=iB.tree (w:=w) (Z:=Z) sz ((rows.drop lo).take n) b (o+lo*sz) cap' (λr c=>f (lo+r) c) hz (λrow h=>hr row (List.mem_of_mem_drop (List.mem_of_mem_take h))) GK
  (λr c x hx=>by
   have h1:=hc _ _ _ (wJ r c x hx);rw[gn]at h1;have e:o+(lo*sz+r*sz+c)=o+lo*sz+(r*sz+c):=GK;rw[e]at h1;exact h1) (λr c x hx=>ht _ _ _ (wJ r c x hx))
 rw[hlen]at this;exact this
def Hn{o:Oper}{σ:St}{γ:Cx}{a:Act}{K:St->Prop}(h:bx σ γ)(ha:γ.tmps=a.tmps)(hd:∀ d,o.dst=some d->d<a.tmps.size){ob:Ob}{cur:Array Value}{t:TypeId}{cap:Nat}(bP:ud σ.aa γ.w γ.Z γ.blk 0 cap cur ob){v:AV}{cv:Value}(hv:aw (σ.aa++[ob]) (γ.w.alloc (.cells cur t)) γ.Z (df γ.blk σ.aa.length (some (γ.w.heap.size,0,cap))) v cv)(hK:K (({ σ with aa:=σ.aa++[ob] }:St).put o.dst v)){r:Result Next}(hr:r=.ok (.value cv) (γ.w.alloc (.cells cur t))):AU o σ γ a K r :=
 CD (σ1:={ σ with aa:=σ.aa++[ob] }) (γ1:={ γ with w:=γ.w.alloc (.cells cur t),blk:=df γ.blk σ.aa.length (some (γ.w.heap.size,0,cap)) })
  (Fr.push (t:=t) (cur:=cur) ob rfl rfl rfl rfl) (h.push (t:=t) (cur:=cur) rfl bP) ha hd hv hK hr
def ue(ents:List (Value×Value)):(cY ents).toList=ents.mapIdx λi p=>(⟨p.1,p.2,i⟩:MapEntry):=by simp[cY]
def Ln(L:List (Value×Value))(p:Value×Value):(cY L).push ⟨p.1,p.2,L.length⟩=cY (L++[p]):=by
 apply Array.toList_inj.1;rw[Array.toList_push,ue,ue,List.mapIdx_append];simp
def Ho(L:List (Value×Value))(i:Nat)(f:MapEntry->MapEntry)(p:Value×Value)(hf:∀ q,L[i]?=some q->f ⟨q.1,q.2,i⟩=⟨p.1,p.2,i⟩):(cY L).modify i f=cY (L.set i p):=by
 apply Array.ext_getElem?;intro j;rw[Array.getElem?_modify];simp only[cY,List.getElem?_toArray,List.getElem?_mapIdx,bU];by_cases h:i=j
 ·subst h;rw[if_pos rfl,if_pos rfl];cases hq:L[i]? with
  |none =>
   have:¬ i<L.length:=by
    have:=List.getElem?_eq_none_iff.1 hq;omega
   simp[this]
  |some q =>
   have:i<L.length:=(aV.1 hq).1;simp[this,hf q hq]
 ·rw[if_neg h,if_neg h]
def rn(ag:Nat)(f:Nat->Value)(L:List (List Int×AV)):(du ag f L).length=L.length:=by unfold du;simp
def vp(ag:Nat)(f:Nat->Value)(L:List (List Int×AV))(j:Nat):(du ag f L)[j]?=(L[j]?).map λp=>(kV ag p.1,f j):=by unfold du;simp
def AW{l:List Int}:∀ {L:List (List Int×AV)} {i j:Nat},iH l L i=some j->i<=j/\∃ v,L[j-i]?=some (l,v)
 |[],_,_,h=>by cases h
 |p::r,i,j,h=>by
  rw[iH]at h;split at h
  ·rename_i hp;cases h;exact⟨aY _,p.2,by rw[jz];simp[<- hp]⟩
  ·obtain⟨h1,v,h2⟩:=AW h;have e:j-i=(j-(i+1))+1:=GK;exact⟨GK,v,by rw[e,List.getElem?_cons_succ];exact h2⟩
def Ei{σ:St}{γ:Cx}(h:bx σ γ){v:AV}{cv:Value}(hv:aw σ.aa γ.w γ.Z γ.blk v cv){id ag:Nat}{L:List (List Int×AV)}(hm:mG σ v=some (id,ag,L)):
  v=.dD id/\σ.aa[id]?=some (.mp ag L)/\∃ b,∃ f:Nat->Value,γ.blk id=some (b,0,0)/\cv=.map (some b)/\γ.w.heap[b]?=some (.map (cY (du ag f L)) L.length)/\(∀ p∈L,p.1.length=kD ag)/\∀ (j:Nat) p,L[j]?=some p->aw σ.aa γ.w γ.Z γ.blk p.2 (f j):=by
 unfold mG at hm;split at hm
 ·rename_i px;split at hm
  ·rename_i jb L' ho;simp only[cA.injEq,Prod.mk.injEq]at hm;obtain⟨rfl,rfl,rfl⟩:=hm;obtain⟨b,f,h1,h2,h3,h4⟩:=h.dT _ _ ho;cases hv with
   |cO _ _ h=>cases h
   |q9 _ _ h' _=>rw[ho]at h';simp at h'
   |dD _ b' _ _ h' hb =>
    rw[h1]at hb;simp only[cA.injEq,Prod.mk.injEq,and_true]at hb;subst hb;exact⟨rfl,ho,b,f,h1,rfl,h2,h3,h4⟩
  ·cases hm
 ·cases hm
def Lo{os:List Ob}{w:World}{Z:Nat->Prop}{blk:gB}{v:AV}{cv:Value}(hv:aw os w Z blk v cv){ag:Nat}{l:List Int}(hk:keyOf v=some (ag,l))(hl:l.length=kD ag):cv=kV ag l:=by
 unfold keyOf at hk;split at hk
 ·simp only[cA.injEq,Prod.mk.injEq]at hk;obtain⟨rfl,rfl⟩:=hk;rw[hv.cF];rfl
 ·rename_i cs;cases hi:qg cs with
  |none=>simp[hi]at hk
  |some as =>
   simp only[hi,eH,cA.injEq,Prod.mk.injEq]at hk;obtain⟨rfl,rfl⟩:=hk;have:=Lp hv hi;rw[this];unfold kD at hl;unfold kV;by_cases h0:as.length=0
   ·rw[if_pos h0]at hl;omega
   ·rw[if_neg h0]
 ·cases hk
def afr{t:TypeId}{ag:Nat}(vq:jC P t ag){z:Value}{w:World}(hz:∀ kt et,P.underlying t=some (.map kt et)->(zeroValue et).run P w=.ok z w){b:Nat}{f:Nat->Value}{L:List (List Int×AV)}(hb:w.heap[b]?=some (.map (cY (du ag f L)) L.length))(hL:∀ p∈L,p.1.length=kD ag){l:List Int}(hl:l.length=kD ag):
  (Instr.lookup t (.map (some b)) (kV ag l) false).run P w=.ok (((iH l L 0).map f).getD z) w:=by
 obtain⟨kt,et,ht,hk⟩:=vq;obtain⟨h1,h2,h3⟩:=hk l hl;simp only[Instr.lookup,Sem.run_bind,run_underlying ht,MapKept.run_getObj_map hb,h1,h3 f L w hL,Result.andThen_ok,Sem.run_pure];cases h:iH l L 0 with
 |none=>simp[hz kt et ht]
 |some q=>simp
def afs{t:TypeId}{ag:Nat}(vq:jC P t ag){w:World}{b:Nat}{f:Nat->Value}{L:List (List Int×AV)}(hb:w.heap[b]?=some (.map (cY (du ag f L)) L.length))(hL:∀ p∈L,p.1.length=kD ag){l:List Int}(hl:l.length=kD ag)(v:AV)(cv:Value):
  ∃ f':Nat->Value,(Instr.mapUpdate t (.map (some b)) (kV ag l) cv).run P w=.ok () { w with heap:=w.heap.setIfInBounds b (.map (cY (du ag f' (fl l v L))) (fl l v L).length) } /\
   (∀ p∈fl l v L,p.1.length=kD ag)/\∀ (j:Nat) p,(fl l v L)[j]?=some p->(p.2=v/\f' j=cv)\/(L[j]?=some p/\f' j=f j):=by
 obtain⟨kt,et,ht,hk⟩:=vq;obtain⟨h1,h2,h3⟩:=hk l hl;simp only[Instr.mapUpdate,Sem.run_bind,run_underlying ht,MapKept.run_getObj_map hb,h1,h3 f L w hL,Result.andThen_ok];unfold fl;cases h:iH l L 0 with
 |none =>
  refine⟨λj=>if j=L.length then cv else f j,?_,λp hp=>?_,λj p hp=>?_⟩
  ·have e:=Ln (du ag f L) (kV ag l,cv);rw[rn]at e;have e2:du ag f L++[(kV ag l,cv)]=du ag (λj=>if j=L.length then cv else f j) (L++[(l,v)]):=by
    unfold du;rw[List.mapIdx_append];congr 1
    ·apply List.ext_getElem
     ·simp
     ·intro j h5 h6;have:j<L.length:=by simpa using h5
      simp[oG this]
    ·simp
   simp only[qT,MapKept.run_setObj_map _ hb,e,e2,bO,Ca]
  ·rcases cG.1 hp with hp|hp
   ·exact hL p hp
   ·rw[cV.1 hp];exact hl
  ·rcases dP j L.length with hj|hj
   ·rw[eZ hj]at hp;exact .inr ⟨hp,by dsimp only;rw[if_neg GK]⟩
   ·rw[iA hj]at hp;have:j=L.length:=by
     have:=(aV.1 hp).1;simp at this;omega
    subst this;simp only[jz,uY,cA.injEq]at hp;subst hp;exact .inl ⟨rfl,by dsimp only;rw[if_pos rfl]⟩
 |some q =>
  obtain⟨_,u,hu⟩:=AW h;rw[wB]at hu;have hq:=(aV.1 hu).1;refine⟨λj=>if j=q then cv else f j,?_,λp hp=>?_,λj p hp=>?_⟩
  ·have Ej:(((cY (du ag f L))[q]?).map (·.key)).getD (kV ag l)=kV ag l:=by
    simp[cY,vp,hu]
   have e:=Ho (du ag f L) q (λe=>{ e with key:=kV ag l,val:=cv }) (kV ag l,cv) (λ_ _=>rfl);have e2:(du ag f L).set q (kV ag l,cv)=du ag (λj=>if j=q then cv else f j) (L.set q (l,v)):=by
    apply kY;intro j;rw[bU,vp,vp,bU,rn];by_cases hj:q=j
    ·subst hj;simp[hq]
    ·rw[if_neg hj,if_neg hj,if_neg (Ne.symm hj)]
   simp only[eH,Ej,h2,Result.andThen_ok,MapKept.run_setObj_map _ hb,Sem.run_bind];rw[e,e2,bJ]
  ·rcases su hp with hp|hp
   ·exact hL p hp
   ·rw[hp];exact hl
  ·simp only[bU]at hp;by_cases hj:q=j
   ·subst hj;rw[if_pos rfl,if_pos hq]at hp;cases hp;exact .inl ⟨rfl,by dsimp only;rw[if_pos rfl]⟩
   ·rw[if_neg hj]at hp;exact .inr ⟨hp,by dsimp only;rw[if_neg (Ne.symm hj)]⟩
def bx.wrR{σ:St}{γ:Cx}(h:bx σ γ){id:Nat}{ob ob':Ob}(ho:σ.aa[id]?=some ob)(hg:ob≠.gone)(gr:ob.ej ob'){b o cap:Nat}(hb:γ.blk id=some (b,o,cap)){w':World}(nr:∀ k,k≠b->w'.heap[k]?=γ.w.heap[k]?):∀ v cv,aw σ.aa γ.w γ.Z γ.blk v cv->aw (σ.aa.set id ob') w' γ.Z γ.blk v cv:=by
 have bX:id<σ.aa.length:=(aV.1 ho).1;have ki:Live σ.aa id:=⟨ob,ho,hg⟩;exact λv cv hv =>
  hv.mono (λz hz=>⟨hz,nr z (λe=>h.nz b ⟨id,o,cap,ki,hb⟩ (e▸hz))⟩) (λi x hx=>by
   rw[bU];by_cases nX:id=i
   ·subst nX;rw[ho]at hx;simp at hx;subst hx;right;refine⟨rfl,ob',by simp[bX],gr⟩
   ·rw[if_neg nX];by_cases bG:x=.gone
    ·subst bG;exact .inl hx
    ·exact .inr ⟨rfl,x,hx,Ob.jK bG⟩)
def afu{t:TypeId}{ag:Nat}(vq:jC P t ag){z:Value}{w:World}(hz:∀ kt et,P.underlying t=some (.map kt et)->(zeroValue et).run P w=.ok z w){b:Nat}{f:Nat->Value}{L:List (List Int×AV)}(hb:w.heap[b]?=some (.map (cY (du ag f L)) L.length))(hL:∀ p∈L,p.1.length=kD ag){l:List Int}(hl:l.length=kD ag):
  ∃ f':Nat->Value,(Instr.mapEntry t (.map (some b)) (kV ag l)).run P w=.ok (.tuple #[((iH l L 0).map f).getD z,.int .i64 (Cm l L:Nat)]) { w with heap:=w.heap.setIfInBounds b (.map (cY (du ag f' (fl l ((ni l L).getD (.lit z)) L))) (fl l ((ni l L).getD (.lit z)) L).length) } /\
   (∀ p∈fl l ((ni l L).getD (.lit z)) L,p.1.length=kD ag)/\∀ (j:Nat) p,(fl l ((ni l L).getD (.lit z)) L)[j]?=some p->(p.2=(ni l L).getD (.lit z)/\f' j=((iH l L 0).map f).getD z)\/(L[j]?=some p/\f' j=f j):=by
 obtain⟨kt,et,ht,hk⟩:=vq;obtain⟨h1,h2,h3⟩:=hk l hl;generalize hv:(ni l L).getD (.lit z)=v;simp only[Instr.mapEntry,Sem.run_bind,run_underlying ht,MapKept.run_getObj_map hb,h1,h3 f L w hL,Result.andThen_ok];unfold fl Cm;cases h:iH l L 0 with
 |none =>
  refine⟨λj=>if j=L.length then z else f j,?_,λp hp=>?_,λj p hp=>?_⟩
  ·have e:=Ln (du ag f L) (kV ag l,z);rw[rn]at e;have e2:du ag f L++[(kV ag l,z)]=du ag (λj=>if j=L.length then z else f j) (L++[(l,v)]):=by
    unfold du;rw[List.mapIdx_append];congr 1
    ·apply List.ext_getElem
     ·simp
     ·intro j h5 h6;have:j<L.length:=by simpa using h5
      simp[oG this]
    ·simp
   simp only[qT,hz kt et ht,Result.andThen_ok,MapKept.run_setObj_map _ hb,Sem.run_bind,e,e2,bO,Ca,Sem.run_pure,Option.getD_none,goInt]
  ·rcases cG.1 hp with hp|hp
   ·exact hL p hp
   ·rw[cV.1 hp];exact hl
  ·rcases dP j L.length with hj|hj
   ·rw[eZ hj]at hp;exact .inr ⟨hp,by dsimp only;rw[if_neg GK]⟩
   ·rw[iA hj]at hp;have:j=L.length:=by
     have:=(aV.1 hp).1;simp at this;omega
    subst this;simp only[jz,uY,cA.injEq]at hp;subst hp;exact .inl ⟨rfl,by dsimp only;rw[if_pos rfl];rfl⟩
 |some q =>
  obtain⟨_,u,hu⟩:=AW h;rw[wB]at hu;have hq:=(aV.1 hu).1;refine⟨f,?_,λp hp=>?_,λj p hp=>?_⟩
  ·have Ej:(((cY (du ag f L))[q]?).map (·.key)).getD (kV ag l)=kV ag l:=by
    simp[cY,vp,hu]
   have afv:(((cY (du ag f L))[q]?).map (λe=>(e.born:Int))).getD 0=(q:Int):=by
    simp[cY,vp,hu]
   have e:=Ho (du ag f L) q (λe=>{ e with key:=kV ag l }) (kV ag l,f q) (λx hx=>by
    rw[vp,hu]at hx;cases hx;rfl)
   have e2:(du ag f L).set q (kV ag l,f q)=du ag f (L.set q (l,v)):=by
    apply kY;intro j;rw[bU,vp,vp,bU,rn];by_cases hj:q=j
    ·subst hj;simp[hq]
    ·rw[if_neg hj,if_neg hj]
   simp only[eH,Ej,h2,Result.andThen_ok,MapKept.run_setObj_map _ hb,Sem.run_bind,Sem.run_pure,afv,lV,goInt];rw[e,e2,bJ]
  ·rcases su hp with hp|hp
   ·exact hL p hp
   ·rw[hp];exact hl
  ·simp only[bU]at hp;by_cases hj:q=j
   ·subst hj;rw[if_pos rfl,if_pos hq]at hp;cases hp;exact .inl ⟨rfl,rfl⟩
   ·rw[if_neg hj]at hp;exact .inr ⟨hp,rfl⟩
def afw(ents:List (Value×Value)){n:Nat}(hn:n<ents.length):(cY ents).findIdx? (λe=>(e.born:Int)==(n:Int))=some n:=by
 unfold cY;rw[List.findIdx?_toArray,List.findIdx?_eq_some_iff_getElem];refine⟨by simpa using hn,GM,λj hj=>?_⟩;simp only[List.getElem_mapIdx];simp;omega
def afx{t:TypeId}{ag:Nat}{w:World}{b:Nat}{f:Nat->Value}{L:List (List Int×AV)}(hb:w.heap[b]?=some (.map (cY (du ag f L)) L.length)){n:Nat}(hn:n<L.length)(v:AV)(cv:Value):
  (Instr.entryStore t (.map (some b)) (.int .i64 (n:Nat)) cv).run P w=.ok () { w with heap:=w.heap.setIfInBounds b (.map (cY (du ag (λj=>if j=n then cv else f j) (qX n v L))) (qX n v L).length) }:=by
 have hf:=afw (du ag f L) (n:=n) (by rw[rn];exact hn);have e:=Ho (du ag f L) n (λe=>{ e with val:=cv }) (kV ag (L.getD n ([],.undef)).1,cv) (λx hx=>by
  rw[vp,bF hn]at hx;cases hx;rw[az,bF hn];rfl)
 have e2:(du ag f L).set n (kV ag (L.getD n ([],.undef)).1,cv)=du ag (λj=>if j=n then cv else f j) (qX n v L):=by
  unfold qX;apply kY;intro j;rw[bU,vp,vp,bU,rn];by_cases hj:n=j
  ·subst hj;simp[hn]
  ·rw[if_neg hj,if_neg hj,if_neg (Ne.symm hj)]
 simp only[Instr.entryStore,Sem.run_bind,MapKept.run_getObj_map hb,asInt,asIntOf,Sem.run_pure,Result.andThen_ok,hf,MapKept.run_setObj_map _ hb];rw[e,e2];simp[qX]
def Lr{P:Program}{t:TypeId}(h:(ty P t).kind=8):∃kt,P.underlying t=some (.map kt (ty P t).elem):=by
 unfold ty at h ⊢;cases hi:P.info? t<;>cases hd:P.underlying t<;>simp[hi,hd]at h ⊢;rename_i i d;cases d<;>simp at h ⊢
def ae7{o:Oper}{σ:St}{K:St->Prop}(hW:cd P o σ K){γ:Cx}(h:bx σ γ){a:Act}(ha:γ.tmps=a.tmps)(hd:∀ d,o.dst=some d->d<a.tmps.size):
  AU o σ γ a K ((execOp a.eval o).run P γ.w):=by
 obtain⟨dst,op,type,pos,after,guard⟩:=o;unfold cd at hW;have E:=λx=>tZ h ha x;cases op
 case move x=>exact dy h ha hd (E x) hW (by simp[execOp])
 case assign x=>exact dy h ha hd (E x) hW (by simp[execOp])
 case pick c x y =>
  simp only at hW;have hc:=E c;split at hW
  ·rename_i t he;rw[he]at hc;have aT:=hc.cF;refine dy h ha hd (v:=gp t (ev σ x) (ev σ y)) (cv:=if t then a.eval x else a.eval y) ?_ hW (by simp[execOp,aT,asBool]);unfold gp;split
   ·rename_i x' y' h1 h2;have hx:=E x;have hy:=E y;rw[h1]at hx;rw[h2]at hy;rw[hx.cF,hy.cF];cases t<;>exact .lit _
   ·cases t
    ·exact E y
    ·exact E x
  ·exact hW.elim
 case alloc e =>
  simp only at hW;obtain⟨bg,hW⟩:=hW;split at hW
  ·rename_i z hz;obtain⟨v,hv,hvc⟩:=Se bg hz γ.w;obtain⟨l1,l2⟩:=Ls (os:=σ.aa) (w:=γ.w) (Z:=γ.Z) (blk:=γ.blk) z;refine Hn (ob:=.var (z.map .lit)) (v:=.ptr σ.aa.length 0 0) (cv:=.pointer (some ⟨γ.w.heap.size,0,none⟩)) (cap:=0) (cur:=z.toArray) (t:=e) h ha hd ⟨rfl,GM,l2⟩ ?_ hW ?_
   ·exact .oN _ 0 _ 0 _ (GF ..) (by simp[df])
   ·simp[execOp,Instr.alloc,hv,newVar,newRow,hvc]
  ·exact hW.elim
 case box e x =>
  simp only at hW;obtain⟨hs,hK⟩:=hW;obtain⟨c1,c2,c3⟩:=Lt (E x) hs;refine Hn (ob:=.var (cellsOf (ev σ x))) (cv:=.pointer (some ⟨γ.w.heap.size,0,none⟩)) (cap:=0) (cur:=(a.eval x).cells) (t:=e) h ha hd ⟨rfl,c1,c2⟩ ?_ hK ?_
  ·exact .oN _ 0 _ 0 _ (GF ..) (by simp[df])
  ·simp[execOp,Instr.box,newVar,newRow]
 case build t parts =>
  simp only at hW;split at hW
  ·rename_i z hk hz;split at hW
   ·rename_i cs hf;obtain⟨⟨hs,hp⟩,hK⟩:=hW;obtain⟨cur,h1,h2⟩:=afz h ha hk hz hf hs hp;exact dy h ha hd h2 hK (by simp only[execOp,Sem.run_bind,h1,Result.andThen_ok,Sem.run_pure])
   ·exact hW.elim
  ·rename_i z hk hz;split at hW
   ·rename_i cs hf;obtain⟨⟨hs,hp⟩,hK⟩:=hW;obtain⟨cur,h1,h2⟩:=afA h ha hk hz hf hs hp;exact dy h ha hd h2 hK (by simp only[execOp,Sem.run_bind,h1,Result.andThen_ok,Sem.run_pure])
   ·exact hW.elim
  ·exact hW.elim
 case buildSlice t len parts =>
  simp only at hW;split at hW
  ·rename_i z hk hz;split at hW
   ·rename_i cs hf;obtain⟨⟨ec,h0,nY,afB,hs⟩,hK⟩:=hW;have ht:=vr hk;obtain⟨i,d,hi,Hp,vt,_,hzero⟩:=vu ec;obtain⟨zv,hzr,jI⟩:=Se ec hz γ.w;have Hq:0<z.length:=by rw[nY];exact h0
    obtain⟨hl,hr⟩:=Lu h ha parts;obtain⟨cur,f1,f2⟩:=Hs (σ:=σ) (γ:=γ) _ _ _ _ cs hl hr (λp hp=>by
     simp only[List.mem_map]at hp;obtain⟨q,hq,rfl⟩:=hp;rw[List.all_eq_true]at hs;exact hs q hq) (Lv z len (len*(ty P (ty P t).elem).size) (by rw[nY]) Hq) hf
    have aoL:cs.length=len*(ty P (ty P t).elem).size:=by
     have:=Lv (os:=σ.aa) (w:=γ.w) (Z:=γ.Z) (blk:=γ.blk) z len (len*(ty P (ty P t).elem).size) (by rw[nY]) Hq;have h1:∀ (parts:List (Nat×AV)) (cs sK:List AV) (place:Nat->Option (Nat×Nat)),nf place cs parts=some sK->sK.length=cs.length:=by
      intro parts
      induction parts with
      |nil=>intro cs sK place h;simp[nf]at h;rw[h]
      |cons p parts ih =>
       intro cs sK place h;obtain⟨i,v⟩:=p;simp only[nf]at h;split at h
       ·simp at h
       ·split at h
        ·rw[ih _ _ _ h,Lw]
        ·simp at h
     rw[h1 _ _ _ _ hf,<- this.1];simp
    have hmul:len*(ty P (ty P t).elem).size<=16777216:=afB;have hlen:len<=maxLen:=by
     have:len*1<=len*(ty P (ty P t).elem).size:=Nat.mul_le_mul_left _ h0;unfold maxLen;omega
    have eT:(Instr.buildSlice t len (parts.map λ(i,x)=>(i,a.eval x))).run P γ.w=.ok (.slice (some ⟨γ.w.heap.size,0,none⟩) len len) (γ.w.alloc (.cells cur (ty P t).elem)):=by
     have dN:¬ (len*(ty P (ty P t).elem).size > 2^24):=GK;by_cases hl0:len*(ty P (ty P t).elem).size=0
     ·rw[hl0]at f1;have e0:((Kf 0).map λx=>(#[]:Array Value)[x%(#[]:Array Value).size]!)=((Kf 0).map (z.toArray[· % z.toArray.size]!)):=GM;simp only[Instr.buildSlice,Sem.run_bind,run_underlying ht,Result.andThen_ok,run_sizeOf ec,if_false,hl0,if_true,Sem.run_pure,Nat.not_lt_zero,gt_iff_lt];rw[e0,f1];simp[newRow]
     simp only[Instr.buildSlice,Sem.run_bind,run_underlying ht,Result.andThen_ok,run_sizeOf ec,dN,if_false,hl0,hzr,Sem.run_pure,jI];rw[show((Kf (len*(ty P (ty P t).elem).size)).map λx=>z.toArray[x%z.toArray.size]!)=((Kf (len*(ty P (ty P t).elem).size)).map (z.toArray[· % z.toArray.size]!)) from rfl,f1];simp[newRow]
    refine Hn (ob:=.arr (ty P (ty P t).elem).size (ng (ty P (ty P t).elem).size len cs)) (cv:=.slice (some ⟨γ.w.heap.size,0,none⟩) len len) (cap:=len) (cur:=cur) (t:=(ty P t).elem) h ha hd ?_ ?_ hK ?_
    ·refine⟨h0,Sf _ _ _ GK,by rw[f2.1];omega,by rw[Lx];omega,hlen,?_⟩;intro r c v hv;rw[gJ];exact f2.2 _ _ (Sg _ _ _ _ _ _ hv)
    ·have:=aw.ref (os:=σ.aa++[.arr (ty P (ty P t).elem).size (ng (ty P (ty P t).elem).size len cs)]) (w:=γ.w.alloc (.cells cur (ty P t).elem)) (Z:=γ.Z) (blk:=df γ.blk σ.aa.length (some (γ.w.heap.size,0,len)))
      σ.aa.length (ty P (ty P t).elem).size 0 len γ.w.heap.size 0 len len _ (by simp;rfl) (by simp[df]) (by rw[Lx];omega) GK (aY _)
     simpa using this
    ·simp only[execOp,Sem.run_bind,eT,Result.andThen_ok,Sem.run_pure]
   ·exact hW.elim
  ·exact hW.elim
 case load t x =>
  simp only at hW;obtain⟨hk,hW⟩:=hW;have hx:=E x;split at hW
  ·rename_i id r c he;rw[he]at hx;split at hW
   ·rename_i row bL;obtain⟨v,qn,h1,h2,h3⟩:=La h hk hx bL hW;exact dy h ha hd h2 h3 (by simp only[execOp,Sem.run_bind,h1,Result.andThen_ok,Sem.run_pure])
   ·exact hW.elim
  ·rename_i cells he;rw[he]at hx;obtain⟨v,qn,h1,h2,h3⟩:=afD h hk hx hW;exact dy h ha hd h2 h3 (by simp only[execOp,Sem.run_bind,h1,Result.andThen_ok,Sem.run_pure])
  ·exact hW.elim
 case store t x y =>
  simp only at hW;obtain⟨hk,hW⟩:=hW;have hx:=E x;split at hW
  ·rename_i id r c he;rw[he]at hx;split at hW
   ·rename_i row bL;obtain⟨hc,hK⟩:=hW;obtain⟨w',h1,h2,h3⟩:=afE h hk hx bL (E y) hc;exact Ly h3 h2 ha hd hK (by simp only[execOp,Sem.run_bind,h1,Result.andThen_ok,Sem.run_pure])
   ·exact hW.elim
  ·exact hW.elim
 case nilCheck x =>
  simp only at hW;have hx:=E x;split at hW
  ·rename_i id r c he;rw[he]at hx;cases ho:σ.aa[id]? with
   |none=>simp[ho]at hW
   |some ob =>
    have bS:ob≠.gone/\K (σ.put dst (.ptr id r c)):=by cases ob<;>simp[ho]at hW ⊢<;>exact hW
    have aT :∃ad,a.eval x=.pointer (some ad):=by
     rcases hx.Lk with h|⟨b,cap,cells,_,_,_,h⟩|⟨_,b,o,cap,rows,_,_,h⟩
     ·rw[ho]at h;simp at h;exact absurd h bS.1
     ·exact⟨_,h⟩
     ·exact⟨_,h⟩
    obtain⟨ad,aT⟩:=aT;exact dy h ha hd hx bS.2 (by simp[execOp,aT])
  ·rename_i cells he;rw[he]at hx;have aT :∃ad,a.eval x=.pointer (some ad):=by
    obtain⟨b,o,f,h,_⟩:=hx.Ll;exact⟨_,h⟩
   obtain⟨ad,aT⟩:=aT;exact dy h ha hd hx hW (by simp[execOp,aT])
  ·exact hW.elim
 case binOp op t x y yt =>
  simp only at hW;have hx:=E x;have hy:=E y;split at hW
  ·rename_i k p k' q he hf;rw[he]at hx;rw[hf]at hy;obtain⟨rfl,hW⟩:=hW;obtain⟨v,h1,h2⟩:=afF (P:=P) hW t γ.w;refine dy h ha hd (.lit v) h2 ?_;simp[execOp,hx.cF,hy.cF,eqGuard,h1]
  ·rename_i p q he hf;rw[he]at hx;rw[hf]at hy;obtain⟨hk,hW⟩:=hW;have ht:=afG hk;split at hW
   ·refine dy h ha hd (.lit _) hW ?_;simp[execOp,hx.cF,hy.cF,eqGuard,run_eql_bool γ.w t p q ht]
   ·refine dy h ha hd (.lit _) hW ?_;simp[execOp,hx.cF,hy.cF,eqGuard,run_neq_bool γ.w t p q ht,bne]
   ·exact hW.elim
  ·rename_i sz rows he hf;rw[he]at hx;rw[hf]at hy;obtain⟨⟨hk,hr⟩,hW⟩:=hW;have ht:=vr hk;rcases hx.AN.inv with⟨ad,cap,rfl,aT⟩|⟨b,o,cap,f,aT,_⟩
   ·exact absurd hr GM
   split at hW
   ·refine dy h ha hd (.lit _) hW ?_;simp[execOp,aT,hy.cF,eqGuard,afp γ.w t _ _ _ ht]
   ·refine dy h ha hd (.lit _) hW ?_;simp[execOp,aT,hy.cF,eqGuard,afq γ.w t _ _ _ ht]
   ·exact hW.elim
  ·rename_i ad n c he hf;rw[he]at hx;rw[hf]at hy;obtain⟨hk,hW⟩:=hW;have ht:=vr hk;split at hW
   ·refine dy h ha hd (.lit _) hW ?_;simp[execOp,hx.cF,hy.cF,eqGuard,afn γ.w t _ _ _ _ ht]
   ·refine dy h ha hd (.lit _) hW ?_;simp[execOp,hx.cF,hy.cF,eqGuard,afo γ.w t _ _ _ _ ht]
   ·exact hW.elim
  ·rename_i cs ds he hf;rw[he]at hx;rw[hf]at hy;split at hW
   ·rename_i as bs Ek Lz;obtain⟨⟨hq,hlen,CE⟩,hW⟩:=hW;have Sh:=Lp hx Ek;have AX:=Lp hy Lz;have heq:=hq γ.w as bs rfl hlen;split at hW
    ·refine dy h ha hd (.lit _) hW ?_;simp only[execOp,Sh,AX,Sem.run_bind,run_eqGuard_agg γ.w _ _ _ _ _ _ CE,run_eql_struct,heq,Result.andThen_ok,Sem.run_pure]
    ·refine dy h ha hd (.lit _) hW ?_;simp only[execOp,Sh,AX,Sem.run_bind,run_eqGuard_agg γ.w _ _ _ _ _ _ CE,run_neq_struct,heq,Result.andThen_ok,Sem.run_pure]
    ·exact hW.elim
   ·exact hW.elim
  ·exact hW.elim
 case unOp op t x =>
  simp only at hW;have hx:=E x;split at hW
  ·rename_i b he;rw[he]at hx;exact dy h ha hd (.lit _) hW (by simp[execOp,hx.cF,Op.unary])
  ·rename_i k n he;rw[he]at hx;unfold u9 at hW;split at hW
   ·exact dy h ha hd (.lit _) hW (by simp[execOp,hx.cF,Op.unary,Op.intArith])
   ·exact dy h ha hd (.lit _) hW.2 (by simp[execOp,hx.cF,Op.unary,Op.intArith,zs hW.1])
  ·exact hW.elim
 case makeMap t r =>
  simp only at hW;obtain⟨⟨rfl,hk⟩,hK⟩:=hW;refine CD (σ1:={ σ with aa:=σ.aa++[.mp (AD P t) []] }) (γ1:={ γ with w:=γ.w.alloc (.map #[] 0),blk:=df γ.blk σ.aa.length (some (γ.w.heap.size,0,0)) })
   (Fr.El (cap:=0) _ rfl rfl rfl rfl) (h.El (cap:=0) rfl λgN w' ke hR hb hx=>⟨_,λ_=>Go.undef,hb,hx,GM,GM⟩) ha hd
   (v:=.dD σ.aa.length) (cv:=.map (some γ.w.heap.size)) (.dD _ _ _ _ (GF ..) (by simp[df])) hK ?_
  simp[execOp,Instr.makeMap,newObj,Sem.run]
 case lookup t x i ok =>
  simp only at hW;split at hW
  ·rename_i ag l id jb L z fD nq oR;obtain⟨⟨vq,rfl,hl,Ht,rfl⟩,hK⟩:=hW;obtain⟨kt,ht⟩:=Lr Ht;obtain⟨_,ho,b,f,hb,aT,jc,hL,kF⟩:=Ei h (E x) nq;have Em:=Lo (E i) fD hl;have hz:∀ En AY,P.underlying t=some (.map En AY)->(zeroValue AY).run P γ.w=.ok z γ.w:=by
    intro En AY h';rw[ht]at h';cases h';unfold zeroV at oR;split at oR
    ·rename_i ii hi;simp[zeroValue,typeInfo,hi,oR]
    ·cases oR
   have eT:=afr (P:=P) vq hz jc hL hl;refine dy (cv:=((iH l L 0).map f).getD z) h ha hd ?_ hK (by simp only[execOp,aT,Em,Sem.run_bind,eT,Result.andThen_ok,Sem.run_pure]);unfold ni;cases hf:iH l L 0 with
   |none=>exact .lit z
   |some q =>
    obtain⟨_,u,hu⟩:=AW hf;rw[wB]at hu;simp only[tH,hu,eH,lV];exact kF q _ hu
  ·exact hW.elim
 case mapUpdate t m k x =>
  simp only at hW;split at hW
  ·rename_i ag l id jb L fD nq;obtain⟨⟨vq,rfl,hl⟩,hK⟩:=hW;obtain⟨_,ho,b,f,hb,aT,jc,hL,kF⟩:=Ei h (E m) nq;have Em:=Lo (E k) fD hl;obtain⟨f',eT,LA,jt⟩:=afs (P:=P) vq jc hL hl (ev σ x) (a.eval x);have qo:b<γ.w.heap.size:=(mW.1 jc).1;refine Ly (σ1:={ σ with aa:=σ.aa.set id (.mp jb (fl l (ev σ x) L)) }) (γ1:={ γ with w:={ γ.w with heap:=γ.w.heap.setIfInBounds b (.map (cY (du jb f' (fl l (ev σ x) L))) (fl l (ev σ x) L).length) } })
    (Fr.write (.mp jb (fl l (ev σ x) L)) ho GM rfl hb (λk hk=>by simp[uZ (Ne.symm hk)]) GM rfl rfl rfl)
    (h.Hu (ob':=.mp jb (fl l (ev σ x) L)) ho GM rfl hb (λk hk=>by simp[uZ (Ne.symm hk)]) GM λgN hR=>⟨b,f',hb,by simp[qo],LA,λj p hp=>?_⟩) ha hd hK ?_
   ·rcases jt j p hp with⟨h1,h2⟩|⟨h1,h2⟩
    ·rw[h1,h2];exact hR _ _ (E x)
    ·rw[h2];exact hR _ _ (kF j p h1)
   ·simp only[execOp,aT,Em,Sem.run_bind,eT,Result.andThen_ok,Sem.run_pure]
  ·exact hW.elim
 case mapEntry t m k =>
  simp only at hW;split at hW
  ·rename_i ag l id jb L z fD nq oR;obtain⟨⟨vq,rfl,hl,Ht⟩,hK⟩:=hW;obtain⟨kt,ht⟩:=Lr Ht;obtain⟨_,ho,b,f,hb,aT,jc,hL,kF⟩:=Ei h (E m) nq;have Em:=Lo (E k) fD hl;have hz:∀ En AY,P.underlying t=some (.map En AY)->(zeroValue AY).run P γ.w=.ok z γ.w:=by
    intro En AY h';rw[ht]at h';cases h';unfold zeroV at oR;split at oR
    ·rename_i ii hi;simp[zeroValue,typeInfo,hi,oR]
    ·cases oR
   obtain⟨f',eT,LA,jt⟩:=afu (P:=P) vq hz jc hL hl;have qo:b<γ.w.heap.size:=(mW.1 jc).1;have hold:aw σ.aa γ.w γ.Z γ.blk ((ni l L).getD (.lit z)) (((iH l L 0).map f).getD z):=by
    unfold ni;cases hf:iH l L 0 with
    |none=>exact .lit z
    |some q =>
     obtain⟨_,u,hu⟩:=AW hf;rw[wB]at hu;simp only[tH,hu,eH,lV];exact kF q _ hu
   generalize (ni l L).getD (.lit z)=v at *;generalize ((iH l L 0).map f).getD z=cv at *;have hR0:∀ x y,aw σ.aa γ.w γ.Z γ.blk x y->aw (σ.aa.set id (.mp jb (fl l v L))) { γ.w with heap:=γ.w.heap.setIfInBounds b (.map (cY (du jb f' (fl l v L))) (fl l v L).length) } γ.Z γ.blk x y :=
    h.wrR (ob':=.mp jb (fl l v L)) ho GM rfl hb (λk hk=>by simp[uZ (Ne.symm hk)])
   refine CD (σ1:={ σ with aa:=σ.aa.set id (.mp jb (fl l v L)) }) (γ1:={ γ with w:={ γ.w with heap:=γ.w.heap.setIfInBounds b (.map (cY (du jb f' (fl l v L))) (fl l v L).length) } })
    (Fr.write (.mp jb (fl l v L)) ho GM rfl hb (λk hk=>by simp[uZ (Ne.symm hk)]) GM rfl rfl rfl)
    (h.Hu (ob':=.mp jb (fl l v L)) ho GM rfl hb (λk hk=>by simp[uZ (Ne.symm hk)]) GM λgN hR=>⟨b,f',hb,by simp[qo],LA,λj p hp=>?_⟩) ha hd
    (v:=.bD [v,Qf (Cm l L:Nat)]) (cv:=.tuple #[cv,.int .i64 (Cm l L:Nat)]) (.bD _ _ rfl λj x hx=>?_) hK ?_
   ·rcases jt j p hp with⟨h1,h2⟩|⟨h1,h2⟩
    ·rw[h1,h2];exact hR _ _ hold
    ·rw[h2];exact hR _ _ (kF j p h1)
   ·match j,hx with
    |0,hx=>cases hx;exact hR0 _ _ hold
    |1,hx=>cases hx;exact .lit _
   ·simp only[execOp,aT,Em,Sem.run_bind,eT,Result.andThen_ok,Sem.run_pure]
  ·exact hW.elim
 case entryStore t m s x =>
  simp only at hW;split at hW
  ·rename_i n id ag L hs nq;obtain⟨⟨gv,mL⟩,hK⟩:=hW;obtain⟨_,ho,b,f,hb,aT,jc,hL,kF⟩:=Ei h (E m) nq;have Si:=E s;rw[hs]at Si;have lX:=Si.cF;have hn:n=((n.toNat:Nat):Int):=GK;have eT:=afx (P:=P) (t:=t) jc (n:=n.toNat) GK (ev σ x) (a.eval x);rw[<- hn]at eT;have qo:b<γ.w.heap.size:=(mW.1 jc).1;refine Ly (σ1:={ σ with aa:=σ.aa.set id (.mp ag (qX n.toNat (ev σ x) L)) }) (γ1:={ γ with w:={ γ.w with heap:=γ.w.heap.setIfInBounds b (.map (cY (du ag (λj=>if j=n.toNat then a.eval x else f j) (qX n.toNat (ev σ x) L))) (qX n.toNat (ev σ x) L).length) } })
    (Fr.write (.mp ag (qX n.toNat (ev σ x) L)) ho GM rfl hb (λk hk=>by simp[uZ (Ne.symm hk)]) GM rfl rfl rfl)
    (h.Hu (ob':=.mp ag (qX n.toNat (ev σ x) L)) ho GM rfl hb (λk hk=>by simp[uZ (Ne.symm hk)]) GM λgN hR=>⟨b,λj=>if j=n.toNat then a.eval x else f j,hb,by simp only[Array.getElem?_setIfInBounds_self_of_lt qo],λp hp=>?_,λj p hp=>?_⟩) ha hd hK ?_
   ·unfold qX at hp;rcases su hp with hp|hp
    ·exact hL p hp
    ·have nm:n.toNat<L.length:=GK;rw[hp,az,bF nm];exact hL L[n.toNat] (List.getElem_mem nm)
   ·unfold qX at hp;simp only[bU]at hp;by_cases hj:n.toNat=j
    ·subst hj;rw[if_pos rfl,if_pos GK]at hp;cases hp;dsimp only;rw[if_pos rfl];exact hR _ _ (E x)
    ·rw[if_neg hj]at hp;dsimp only;rw[if_neg (Ne.symm hj)];exact hR _ _ (kF j p hp)
   ·simp only[execOp,aT,lX,Sem.run_bind,eT,Result.andThen_ok,Sem.run_pure]
  ·exact hW.elim
 case index t x i =>
  simp only at hW;split at hW
  ·rename_i s k n hs hi;obtain⟨⟨hu,gv,mL⟩,hK⟩:=hW;have hx:=E x;rw[hs]at hx;have hj:=E i;rw[hi]at hj;have aX:n.toNat<s.size:=GK;have hg:s[n.toNat]?=some s[n.toNat]:=by simp[aX]
   refine dy h ha hd (.lit _) hK ?_;simp only[execOp,hx.cF,hj.cF,Instr.index,asIntOf,Sem.run_bind,Sem.run_pure,Result.andThen_ok,run_underlying hu,if_pos gv,hg,KB]
  ·exact hW.elim
 case makeInterface t x =>
  simp only at hW;obtain⟨h1,hK⟩:=hW;refine dy h ha hd (v:=.iC t (ev σ x)) (cv:=.iface t (a.eval x)) (.iC _ _ _ (E x)) hK ?_;unfold AE at h1;cases hu:P.underlying t with
  |none=>simp[hu]at h1
  |some d=>cases d<;>simp[hu]at h1<;>simp[execOp,Instr.makeInterface,run_underlying hu]
 case typeAssert x xt asserted ok =>
  simp only at hW;have hx:=E x;split at hW
  ·rename_i t v he;rw[he]at hx;obtain⟨cx,hc,hv⟩:=hx.R2;obtain⟨⟨h1,rfl,rfl⟩,hK⟩:=hW;refine dy h ha hd hv hK ?_;unfold AE at h1;cases hu:P.underlying t with
   |none=>simp[hu]at h1
   |some d=>cases d<;>simp[hu]at h1<;>simp[execOp,hc,Instr.typeAssert,run_underlying hu]
  ·exact hW.elim
 case makeFunc fn first captured =>
  simp only at hW;split at hW
  ·rename_i f;obtain⟨hf,hK⟩:=hW;have hfe:first = #[]:=Array.eq_empty_of_size_eq_zero hf
   subst hfe;refine dy h ha hd (v:=.fn f (captured.toList.map (ev σ))) (cv:=.func (.func f) #[] (captured.map a.eval)) ?_ hK (by simp[execOp,Instr.makeFunc]);refine .fn _ _ _ GM (λj x hj=>?_);simp only[bI]at hj;cases hc:captured.toList[j]? with
   |none=>simp[hc]at hj
   |some y =>
    simp[hc]at hj;subst hj;simp only[DU]at hc;simp[eL,hc];exact E y
  ·exact hW.elim
 case makeSlice t l c =>
  simp only at hW;have hl:=E l;have hc:=E c;split at hW
  ·rename_i z k n k' n' hk hz he hf;rw[he]at hl;rw[hf]at hc;obtain⟨⟨ec,h0,nY,rfl,gv,mL,Eo,_⟩,hK,_⟩:=hW;have ht:=vr hk;obtain⟨i,d,hi,Hp,vt,Ep,hzero⟩:=vu ec;obtain⟨zv,AZ,jI⟩:∃zv,i.zero=some zv/\zv.cells=z.toArray:=by
    rw[hzero]at hz;cases hv:i.zero with
    |none=>simp[hv]at hz
    |some v=>simp[hv]at hz;exact⟨v,rfl,by rw[<- hz]⟩
   have hb:(i.bytes:Int)*n'<=281474976710656:=by
    have h1:(i.bytes:Int)<=128:=by rw[<- Ep];exact_mod_cast Eo
    have h2:(i.bytes:Int)*n'<=128*n':=Int.mul_le_mul_of_nonneg_right h1 gv;omega
   have hr:=run_make (P:=P) γ.w t _ i zv ht hi AZ k k' n' n' gv (Int.le_refl _) hb GK;rw[<- vt,jI]at hr;have Hq:0<z.length:=by rw[nY];exact h0
   obtain⟨z1,z2⟩:=Lv (os:=σ.aa) (w:=γ.w) (Z:=γ.Z) (blk:=γ.blk) z n'.toNat (n'.toNat*(ty P (ty P t).elem).size) (by rw[nY]) Hq;refine Hn (ob:=.arr (ty P (ty P t).elem).size (aK n'.toNat (z.map .lit))) (cv:=.slice (some ⟨γ.w.heap.size,0,none⟩) n'.toNat n'.toNat) (cap:=n'.toNat) (cur:=madeCells z.toArray (n'.toNat*(ty P (ty P t).elem).size)) (t:=(ty P t).elem) h ha hd ?_ ?_ hK ?_
   ·refine⟨h0,?_,by rw[size_madeCells];omega,GM,by unfold maxLen;omega,?_⟩
    ·intro row bL;simp only[List.mem_replicate]at bL;rw[bL.2];simp[nY]
    ·intro r c v hv;rw[gJ];have cD:r<n'.toNat:=by
      simp only[cellAt,Option.bind_eq_some_iff]at hv;obtain⟨y,hy,_⟩:=hv;have:=(aV.1 hy).1;simpa using this
     simp only[cellAt,List.getElem?_replicate,cD,if_true,tH]at hv;have bK:c<(ty P (ty P t).elem).size:=by
      have:=(aV.1 hv).1;simp at this;omega
     have aX:=AO cD bK;have hx:((bu n'.toNat).flatMap λ_=>z.map AV.lit)[r*(ty P (ty P t).elem).size+c]?=some v:=by
      have key:∀ (m r:Nat),r<m->((bu m).flatMap λ_=>z.map AV.lit)[r*z.length+c]?=(z.map AV.lit)[c]?:=by
       intro m;have hlen:∀ m,((bu m).flatMap λ_=>z.map AV.lit).length=m*z.length:=by
        intro m
        induction m with
        |zero=>simp
        |succ m ih=>rw[u3,sv,bO,ih];simp[gn]
       induction m with
       |zero=>intro r hr;omega
       |succ m ih =>
        intro r hr;rw[u3,sv];by_cases zt:r<m
        ·rw[eZ (by rw[hlen,nY];exact AO zt bK)];exact ih r zt
        ·have:r=m:=GK;subst this;rw[iA (by rw[hlen];omega),hlen];simp
      rw[<- nY,key _ _ cD];exact hv
     exact z2 _ _ hx
   ·have:=aw.ref (os:=σ.aa++[.arr (ty P (ty P t).elem).size (aK n'.toNat (z.map .lit))]) (w:=γ.w.alloc (.cells (madeCells z.toArray (n'.toNat*(ty P (ty P t).elem).size)) (ty P t).elem)) (Z:=γ.Z) (blk:=df γ.blk σ.aa.length (some (γ.w.heap.size,0,n'.toNat)))
     σ.aa.length (ty P (ty P t).elem).size 0 n'.toNat γ.w.heap.size 0 n'.toNat n'.toNat _ (GF ..) (by simp[df]) GM GK (aY _)
    simpa using this
   ·simp only[execOp,Sem.run_bind,hl.cF,hc.cF,hr,Result.andThen_ok,Sem.run_pure]
  ·exact hW.elim
 case fieldAddr s x f =>
  simp only at hW;have hx:=E x;split at hW
  ·rename_i off ft size hk iP;obtain⟨aP,hW⟩:=hW;obtain⟨fs,hu,iQ⟩:=LB hk;obtain⟨fd,Hv,D5,CF⟩:∃fd:Field,fs[f]?=some fd/\fd.offset=off/\yd P fd.type=size:=by
    rw[iQ]at iP;simp only[bI,DU]at iP;cases hg:fs[f]? with
    |none=>simp[hg]at iP
    |some fd=>simp[hg]at iP;exact⟨fd,rfl,iP.1,iP.2.2⟩
   have eT:∀ (b o:Nat),(Instr.fieldAt s (.pointer (some ⟨b,o,none⟩)) f).run P γ.w=.ok (.pointer (some ⟨b,o+off,none⟩)) γ.w:=by
    intro b o;have hso:(sizeOf fd.type).run P γ.w=.ok size γ.w:=by
     rw[<- CF];unfold yd at CF ⊢;cases hi:P.info? fd.type with
     |none=>rw[hi]at CF;simp at CF;omega
     |some i=>simp[sizeOf,typeInfo,hi]
    have cy:¬ size=0:=GK;simp[Instr.fieldAt,run_underlying hu,Hv,Instr.sureAddr,fieldPlace,hso,cy,Addr.sP,D5]
   split at hW
   ·rename_i id r c he;rw[he]at hx;cases ho:σ.aa[id]? with
    |none=>simp[ho]at hW
    |some ob =>
     have bS:ob≠.gone/\K (σ.put dst (.ptr id r (c+off))):=by cases ob<;>simp[ho]at hW ⊢<;>exact hW
     rcases hx.Lk with hg|⟨b,cap,cells,h1,h2,rfl,aT⟩|⟨sz,b,o,cap,rows,h1,h2,aT⟩
     ·rw[ho]at hg;simp at hg;exact absurd hg bS.1
     ·exact dy h ha hd (.oN id (c+off) b cap cells h1 h2) bS.2 (by simp only[execOp,Sem.run_bind,aT,eT,Result.andThen_ok,Sem.run_pure])
     ·refine dy h ha hd (.py id r (c+off) sz b o cap rows h1 h2) bS.2 ?_;simp only[execOp,Sem.run_bind,aT,eT,Result.andThen_ok,Sem.run_pure];simp[xT]
   ·rename_i cells he;rw[he]at hx;obtain⟨b,o,g,aT,h1,h2,h3⟩:=hx.Ll;refine dy h ha hd (.cB (cells.drop off) b (o+off) (λj=>g (off+j)) h1 ?_ ?_) hW ?_
    ·intro j x hj;rw[nM]at hj;have:=h2 _ _ hj;simpa [xT] using this
    ·intro j x hj;rw[nM]at hj;exact h3 _ _ hj
    ·simp only[execOp,Sem.run_bind,aT,eT,Result.andThen_ok,Sem.run_pure]
   ·exact hW.elim
  ·exact hW.elim
 case extract x i =>
  simp only at hW;have hx:=E x;split at hW
  ·rename_i vs he;rw[he]at hx;obtain⟨bm,aT,hs,hr⟩:=hx.RR;split at hW
   ·rename_i v hv;have hi:i<bm.size:=by rw[hs];exact(aV.1 hv).1
    refine dy h ha hd (hr i v hv) hW ?_;simp[execOp,aT,Instr.extract,hi,eL]
   ·exact hW.elim
  ·exact hW.elim
 case field s x f =>
  simp only at hW;have hx:=E x;split at hW
  ·rename_i off ft size hk iP;obtain⟨ec,vt,hW⟩:=hW;obtain⟨fs,hu,iQ⟩:=LB hk;obtain⟨fd,Hv,D5,CF⟩:∃fd:Field,fs[f]?=some fd/\fd.offset=off/\fd.type=ft:=by
    rw[iQ]at iP;simp only[bI,DU]at iP;cases hg:fs[f]? with
    |none=>simp[hg]at iP
    |some fd=>simp[hg]at iP;exact⟨fd,rfl,iP.1,iP.2.1⟩
   subst D5;subst CF;split at hW
   ·rename_i cs he;rw[he]at hx;obtain⟨bm,aT,hs,hr⟩:=hx.RQ;split at hW
    ·rename_i mN;refine dy h ha hd (v:=.agg ((cs.drop fd.offset).take size)) (cv:=.agg (bm.extract fd.offset (fd.offset+size))) ?_ hW.2 ?_
     ·have h1:=hW.1;refine .agg _ _ P2 (λj y hj=>?_);have gu:j<size:=by have:=(aV.1 hj).1;simp at this;omega
      rw[wA,if_pos gu,nM]at hj;have:=hr _ _ hj;simp[eL,Array.getElem?_extract]at this ⊢;rw[if_pos GK];exact this
     ·simp[execOp,aT,Instr.field,run_underlying hu,Hv,asAgg,part,LC ec,run_sizeOf ec,mN,vt]
    ·rename_i mN;split at hW
     ·rename_i v hv;have hi:fd.offset<bm.size:=by rw[hs];exact(aV.1 hv).1
      refine dy h ha hd (hr _ v hv) hW ?_;simp[execOp,aT,Instr.field,run_underlying hu,Hv,asAgg,part,LC ec,mN,hi,eL]
     ·exact hW.elim
   ·exact hW.elim
  ·exact hW.elim
 case indexAddr t x i =>
  simp only at hW;have hx:=E x;have hi:=E i;split at hW
  ·rename_i id sz off len k n hk he hf;rw[he]at hx;rw[hf]at hi;split at hW
   ·rename_i da rows ho;obtain⟨⟨rfl,aP,ec,h0,h1⟩,hK⟩:=hW;have ht:=vr hk;rcases hx.Lm with hg|⟨_,_,_,rfl,_⟩|⟨rfl,_⟩|⟨b,o,cap,cap',gV,g1,g2,g3,g4,g5,aT⟩
    ·rw[ho]at hg;simp at hg
    ·omega
    ·omega
    ·refine dy h ha hd (.py id (off+n.toNat) 0 _ b o cap gV g1 g2) hK ?_;have hc:0<=n/\n<(len:Int):=⟨h0,h1⟩;simp only[execOp,Sem.run_bind,Instr.indexAt,aT,hi.cF,asIntOf,Sem.run_pure,Result.andThen_ok,run_underlying ht,Sem.run_ite,hc,and_self,if_true,run_sizeOf ec,<- aP,Addr.sP];simp[gn,xT]
   ·exact hW.elim
  ·rename_i sz rows k n hk he hf;rw[he]at hx;rw[hf]at hi;obtain⟨⟨aP,ec,h0,h1⟩,hK⟩:=hW;have ht:=vr hk;rcases hx.AN.inv with⟨ad,cap,rfl,aT⟩|⟨b,o,cap,f,aT,g1,g2,g3,g4,g5⟩
   ·simp at h1;omega
   ·have hn:n.toNat<rows.length:=GK;refine dy h ha hd (.cB (rows.getD n.toNat []) b (o+n.toNat*sz) (λj=>f n.toNat j) g1 ?_ ?_) hK ?_
    ·intro j y hj;have:cellAt rows n.toNat j=some y:=by
      rw[az]at hj;simp[hn]at hj;simp[cellAt,hn,hj]
     have:=g4 _ _ _ this;simpa [xT] using this
    ·intro j y hj;have:cellAt rows n.toNat j=some y:=by
      rw[az]at hj;simp[hn]at hj;simp[cellAt,hn,hj]
     exact g5 _ _ _ this
    ·have hc:0<=n/\n<(rows.length:Int):=⟨h0,GK⟩;simp only[execOp,Sem.run_bind,Instr.indexAt,aT,hi.cF,asIntOf,Sem.run_pure,Result.andThen_ok,run_underlying ht,Sem.run_ite,hc,and_self,if_true,run_sizeOf ec,<- aP,Addr.sP]
  ·rename_i id r c k n hk he hf;rw[he]at hx;rw[hf]at hi;cases ho:σ.aa[id]? with
   |none=>simp[ho]at hW
   |some ob =>
    have bS:ob≠.gone/\((ty P (ty P t).elem).kind≠99/\0<=n/\n<(ty P t).len)/\K (σ.put dst (.ptr id r (c+n.toNat*(ty P (ty P t).elem).size))):=by cases ob<;>simp[ho]at hW ⊢<;>exact hW
    obtain⟨sQ,⟨ec,h0,h1⟩,hK⟩:=bS;have ht:=LD hk;have hc:0<=n/\n<((ty P t).len:Int):=⟨h0,h1⟩;rcases hx.Lk with hg|⟨b,cap,cells,h1,h2,rfl,aT⟩|⟨sz,b,o,cap,rows,h1,h2,aT⟩
    ·rw[ho]at hg;simp at hg;exact absurd hg sQ
    ·refine dy h ha hd (.oN id _ b cap cells h1 h2) hK ?_;simp only[execOp,Sem.run_bind,Instr.indexAt,aT,hi.cF,asIntOf,Sem.run_pure,Result.andThen_ok,run_underlying ht,Instr.sureAddr,Sem.run_ite,hc,and_self,if_true,run_sizeOf ec,Addr.sP]
    ·refine dy h ha hd (.py id r _ sz b o cap rows h1 h2) hK ?_;simp only[execOp,Sem.run_bind,Instr.indexAt,aT,hi.cF,asIntOf,Sem.run_pure,Result.andThen_ok,run_underlying ht,Instr.sureAddr,Sem.run_ite,hc,and_self,if_true,run_sizeOf ec,Addr.sP];simp[xT]
  ·rename_i cells k n hk he hf;rw[he]at hx;rw[hf]at hi;obtain⟨⟨ec,h0,h1⟩,hK⟩:=hW;have ht:=LD hk;have hc:0<=n/\n<((ty P t).len:Int):=⟨h0,h1⟩;obtain⟨b,o,g,aT,g1,g2,g3⟩:=hx.Ll;refine dy h ha hd (.cB (cells.drop (n.toNat*(ty P (ty P t).elem).size)) b (o+n.toNat*(ty P (ty P t).elem).size) (λj=>g (n.toNat*(ty P (ty P t).elem).size+j)) g1 ?_ ?_) hK ?_
   ·intro j x hj;rw[nM]at hj;rw[xT];exact g2 _ _ hj
   ·intro j x hj;rw[nM]at hj;exact g3 _ _ hj
   ·simp only[execOp,Sem.run_bind,Instr.indexAt,aT,hi.cF,asIntOf,Sem.run_pure,Result.andThen_ok,run_underlying ht,Instr.sureAddr,Sem.run_ite,hc,and_self,if_true,run_sizeOf ec,Addr.sP]
  ·exact hW.elim
 case slice t x lo hi mx =>
  simp only at hW;obtain⟨hk,ec,rfl,hW⟩:=hW;have ht:=vr hk;have hx:=E x;have eT:∀ (ad:Option Addr) (len cap l h:Nat) (lo hi:Option Value),(lo=none/\l=0\/∃ k,lo=some (.int k (l:Int)))->(hi=none/\h=len\/∃ k,hi=some (.int k (h:Int)))->l<=h->h<=cap ->
    (ty P (ty P t).elem).kind≠99->(Instr.sliceAt t (.slice ad len cap) lo hi none).run P γ.w=.ok (.slice (if cap=l then ad else ad.map (·.add (l*(ty P (ty P t).elem).size))) (h-l) (cap-l)) γ.w:=by
   intro ad len cap l h lo hi jL pD h1 h2 ec;have c1:(l:Int)<=h:=GK;have c2:(h:Int)<=cap:=GK;rcases jL with⟨rfl,rfl⟩|⟨k,rfl⟩<;>rcases pD with⟨rfl,rfl⟩|⟨k',rfl⟩ <;>
    simp[Instr.sliceAt,Instr.slice,Instr.sliceBounds,Instr.sliceBound,asIntOf,run_underlying ht,run_sizeOf ec,h1,h2]
  split at hW
  ·rename_i id sz off len he;rw[he]at hx;split at hW
   ·rename_i da rows ho;obtain⟨rfl,aP,hW⟩:=hW;obtain⟨h0,cD,_⟩:=h.dT _ _ ho;have key:∀ (l hh:Nat) (nZ ar:Option Operand),(nZ.map a.eval=none/\l=0\/∃ k,nZ.map a.eval=some (.int k (l:Int)))->(ar.map a.eval=none/\hh=len\/∃ k,ar.map a.eval=some (.int k (hh:Int)))->l<=hh->hh<=len ->
      K (σ.put dst (.ref id da (off+l) (hh-l)))->AU ⟨dst,.slice t x nZ ar none,type,pos,after,guard⟩ σ γ a K ((execOp a.eval ⟨dst,.slice t x nZ ar none,type,pos,after,guard⟩).run P γ.w):=by
     intro l hh nZ ar jL pD h1 h2 hK;rcases hx.Lm with hg|⟨g1,g2,rfl,rfl,aT⟩|⟨rfl,b,xx,bo,gV,g1,g2,g3,aT⟩|⟨b,o,cap,cap',gV,g1,g2,g3,g4,g5,aT⟩
     ·rw[ho]at hg;simp at hg
     ·have:l=0:=GK;subst this;have:hh=0:=GK;subst this;refine dy (o:=⟨dst,.slice t x nZ ar none,type,pos,after,guard⟩) h ha hd (.mK id _ g1 g2) hK ?_;have:=eT none 0 0 0 0 _ _ jL pD GK GK ec;simp only[execOp,Sem.run_bind,aT,qT,this,Result.andThen_ok,Sem.run_pure];simp
     ·have:l=0:=GK;subst this;have:hh=0:=GK;subst this;refine dy (o:=⟨dst,.slice t x nZ ar none,type,pos,after,guard⟩) h ha hd (.nj id _ _ b xx bo gV g1 g2 GK) hK ?_;have:=eT (some ⟨b,xx,none⟩) 0 0 0 0 _ _ jL pD GK GK ec;simp only[execOp,Sem.run_bind,aT,qT,this,Result.andThen_ok,Sem.run_pure];simp
     ·have hr:=eT (some ⟨b,o+off*da,none⟩) len cap' l hh _ _ jL pD h1 GK ec;by_cases hm:cap'=l
      ·have e1:hh=l:=GK;subst e1;rw[if_pos hm]at hr;have e2:hh-hh=0:=GK;have e3:cap'-hh=0:=GK;rw[e2,e3]at hr;rw[e2]at hK;refine dy (o:=⟨dst,.slice t x nZ ar none,type,pos,after,guard⟩) h ha hd (.nj id _ _ b (o+off*da) (o,cap) gV g1 g2 GK) hK ?_;simp only[execOp,Sem.run_bind,aT,qT,hr,Result.andThen_ok,Sem.run_pure]
      ·rw[if_neg hm]at hr;refine dy (o:=⟨dst,.slice t x nZ ar none,type,pos,after,guard⟩) h ha hd (.ref id _ (off+l) (hh-l) b o cap (cap'-l) gV g1 g2 GK GK GK) hK ?_;simp only[execOp,Sem.run_bind,aT,qT,hr,Result.andThen_ok,Sem.run_pure,eH,Addr.sP,<- aP];simp[gn,xT]
    split at hW
    ·rename_i e1 e2;have jL:lo=none:=by cases lo<;>simp at e1 ⊢
     have pD:hi=none:=by cases hi<;>simp at e2 ⊢
     subst jL;subst pD;exact key 0 len none none (.inl ⟨rfl,rfl⟩) (.inl ⟨rfl,rfl⟩) GK (aY _) (by simpa using hW)
    ·rename_i k l e1 e2;have pD:hi=none:=by cases hi<;>simp at e2 ⊢
     subst pD;obtain⟨lo,rfl,f1⟩:∃y,lo=some y/\ev σ y=.lit (.int k l):=by cases lo<;>simp at e1 ⊢;exact e1
     obtain⟨⟨c1,c2,_⟩,hK⟩:=hW;have hl:=E lo;rw[f1]at hl;refine key l.toNat len (some lo) none (.inr ⟨k,?_⟩) (.inl ⟨rfl,rfl⟩) GK (aY _) hK;simp[hl.cF];omega
    ·rename_i k hh e1 e2;have jL:lo=none:=by cases lo<;>simp at e1 ⊢
     subst jL;obtain⟨hi,rfl,f2⟩:∃y,hi=some y/\ev σ y=.lit (.int k hh):=by cases hi<;>simp at e2 ⊢;exact e2
     obtain⟨⟨c1,c2⟩,hK⟩:=hW;have hl:=E hi;rw[f2]at hl;refine key 0 hh.toNat none (some hi) (.inl ⟨rfl,rfl⟩) (.inr ⟨k,?_⟩) GK GK (by simpa using hK);simp[hl.cF];omega
    ·rename_i k l k' hh e1 e2;obtain⟨lo,rfl,f1⟩:∃y,lo=some y/\ev σ y=.lit (.int k l):=by cases lo<;>simp at e1 ⊢;exact e1
     obtain⟨hi,rfl,f2⟩:∃y,hi=some y/\ev σ y=.lit (.int k' hh):=by cases hi<;>simp at e2 ⊢;exact e2
     obtain⟨⟨c1,c2,c3⟩,hK⟩:=hW;have hl:=E lo;have Er:=E hi;rw[f1]at hl;rw[f2]at Er;refine key l.toNat hh.toNat (some lo) (some hi) (.inr ⟨k,?_⟩) (.inr ⟨k',?_⟩) GK GK hK
     ·simp[hl.cF];omega
     ·simp[Er.cF];omega
    ·exact hW.elim
   ·exact hW.elim
  ·rename_i sz rows he;rw[he]at hx;obtain⟨aP,hW⟩:=hW;have key:∀ (l hh:Nat) (nZ ar:Option Operand),(nZ.map a.eval=none/\l=0\/∃ k,nZ.map a.eval=some (.int k (l:Int)))->(ar.map a.eval=none/\hh=rows.length\/∃ k,ar.map a.eval=some (.int k (hh:Int)))->l<=hh->hh<=rows.length ->
     K (σ.put dst (.tree sz ((rows.drop l).take (hh-l))))->AU ⟨dst,.slice t x nZ ar none,type,pos,after,guard⟩ σ γ a K ((execOp a.eval ⟨dst,.slice t x nZ ar none,type,pos,after,guard⟩).run P γ.w):=by
    intro l hh nZ ar jL pD h1 h2 hK;rcases hx.AN.inv with⟨ad,cap,rfl,aT⟩|⟨b,o,cap,f,aT,g1,g2,g3,g4,g5⟩
    ·have e1:hh=0:=by simpa using h2
     subst e1;have e2:l=0:=GK;subst e2;have hr:=eT ad 0 cap 0 0 _ _ jL pD GK GK ec;refine dy (o:=⟨dst,.slice t x nZ ar none,type,pos,after,guard⟩) h ha hd (v:=.tree sz (([].drop 0).take (0-0))) (cv:=.slice (if cap=0 then ad else ad.map (·.add (0*(ty P (ty P t).elem).size))) (0-0) (cap-0)) (.cO _ _ (.nil sz (cap-0) _)) hK ?_;simp only[execOp,Sem.run_bind,aT,qT,hr,Result.andThen_ok,Sem.run_pure]
    ·have hr:=eT (some ⟨b,o,none⟩) rows.length cap l hh _ _ jL pD h1 GK ec;by_cases ns:hh-l=0
     ·have e:(rows.drop l).take (hh-l)=[]:=by rw[ns];simp
      rw[e]at hK;rw[ns]at hr;refine dy (o:=⟨dst,.slice t x nZ ar none,type,pos,after,guard⟩) h ha hd (v:=.tree sz []) (cv:=.slice (if cap=l then some ⟨b,o,none⟩ else(some (⟨b,o,none⟩:Addr)).map (·.add (l*(ty P (ty P t).elem).size))) 0 (cap-l)) (.cO _ _ (.nil sz (cap-l) _)) hK ?_;simp only[execOp,Sem.run_bind,aT,qT,hr,Result.andThen_ok,Sem.run_pure]
     ·have cy:¬ cap=l:=GK;rw[if_neg cy]at hr;have afK:rows≠[]:=by intro e;subst e;simp at h2;omega
      refine dy (o:=⟨dst,.slice t x nZ ar none,type,pos,after,guard⟩) h ha hd (.cO _ _ (iB.sub g1 g2 g4 g5 l (hh-l) (cap':=cap-l) GK g3 GK)) hK ?_;simp only[execOp,Sem.run_bind,aT,qT,hr,Result.andThen_ok,Sem.run_pure,eH,Addr.sP,<- aP afK]
   split at hW
   ·rename_i e1 e2;have jL:lo=none:=by cases lo<;>simp at e1 ⊢
    have pD:hi=none:=by cases hi<;>simp at e2 ⊢
    subst jL;subst pD;exact key 0 rows.length none none (.inl ⟨rfl,rfl⟩) (.inl ⟨rfl,rfl⟩) GK (aY _) (by simpa using hW)
   ·rename_i k l e1 e2;have pD:hi=none:=by cases hi<;>simp at e2 ⊢
    subst pD;obtain⟨lo,rfl,f1⟩:∃y,lo=some y/\ev σ y=.lit (.int k l):=by cases lo<;>simp at e1 ⊢;exact e1
    obtain⟨⟨c1,c2⟩,hK⟩:=hW;have hl:=E lo;rw[f1]at hl;refine key l.toNat rows.length (some lo) none (.inr ⟨k,?_⟩) (.inl ⟨rfl,rfl⟩) GK (aY _) ?_
    ·simp[hl.cF];omega
    ·have e:(rows.drop l.toNat).take (rows.length-l.toNat)=rows.drop l.toNat:=List.take_of_length_le GM;rw[e];exact hK
   ·rename_i k hh e1 e2;have jL:lo=none:=by cases lo<;>simp at e1 ⊢
    subst jL;obtain⟨hi,rfl,f2⟩:∃y,hi=some y/\ev σ y=.lit (.int k hh):=by cases hi<;>simp at e2 ⊢;exact e2
    obtain⟨⟨c1,c2⟩,hK⟩:=hW;have hl:=E hi;rw[f2]at hl;refine key 0 hh.toNat none (some hi) (.inl ⟨rfl,rfl⟩) (.inr ⟨k,?_⟩) GK GK (by simpa using hK);simp[hl.cF];omega
   ·rename_i k l k' hh e1 e2;obtain⟨lo,rfl,f1⟩:∃y,lo=some y/\ev σ y=.lit (.int k l):=by cases lo<;>simp at e1 ⊢;exact e1
    obtain⟨hi,rfl,f2⟩:∃y,hi=some y/\ev σ y=.lit (.int k' hh):=by cases hi<;>simp at e2 ⊢;exact e2
    obtain⟨⟨c1,c2,c3⟩,hK⟩:=hW;have hl:=E lo;have Er:=E hi;rw[f1]at hl;rw[f2]at Er;refine key l.toNat hh.toNat (some lo) (some hi) (.inr ⟨k,?_⟩) (.inr ⟨k',?_⟩) GK GK ?_
    ·simp[hl.cF];omega
    ·simp[Er.cF];omega
    ·rw[<- List.drop_take];exact hK
   ·exact hW.elim
  ·exact hW.elim
 case call c =>
  obtain⟨callee,args,argTypes⟩:=c;have oI:∀ l,args.toList=l->args=l.toArray:=by intro l h;rw[<- h]
  have Hw:∀ l,argTypes.toList=l->argTypes=l.toArray:=by intro l h;rw[<- h]
  cases callee with
  |value f=>exact hW.elim
  |invoke r m=>exact hW.elim
  |builtin b =>
   cases b
   case len =>
    simp only at hW;split at hW
    ·rename_i x t b6 ka;have ea:=oI _ b6;have et:=Hw _ ka;subst ea;subst et;have hx:=E x;have eT:(ty P t).kind=1->∀ ad n c,a.eval x=.slice ad n c->(execOp a.eval ⟨dst,.call ⟨.builtin .len,[x].toArray,[t].toArray⟩,type,pos,after,guard⟩).run P γ.w=.ok (.value (.int .i64 (n:Int))) γ.w:=by
      intro hk ad n c hc;have ht:=vr hk;simp[execOp,resolve,invoke,builtin,Builtin.len_,run_underlying ht,hc,goInt]
     split at hW
     ·rename_i id sz off len he;rw[he]at hx;obtain⟨hk,hW⟩:=hW;split at hW
      ·rename_i da rows ho;rcases hx.Lm with hg|⟨_,_,_,rfl,aT⟩|⟨rfl,_,_,_,_,_,_,_,aT⟩|⟨b,o,cap,cap',gV,g1,g2,g3,g4,g5,aT⟩
       ·rw[ho]at hg;simp at hg
       ·exact dy h ha hd (.lit _) hW.2 (eT hk _ _ _ aT)
       ·exact dy h ha hd (.lit _) hW.2 (eT hk _ _ _ aT)
       ·exact dy h ha hd (.lit _) hW.2 (eT hk _ _ _ aT)
      ·exact hW.elim
     ·rename_i sz rows he;rw[he]at hx;rcases hx.AN.inv with⟨ad,cap,rfl,aT⟩|⟨b,o,cap,f,aT,_⟩
      ·exact dy h ha hd (.lit _) hW.2 (eT hW.1 _ _ _ aT)
      ·exact dy h ha hd (.lit _) hW.2 (eT hW.1 _ _ _ aT)
     ·rename_i he;rw[he]at hx;exact dy h ha hd (.lit _) hW.2 (eT hW.1 _ _ _ hx.cF)
     ·rename_i id he;obtain⟨hk,hW⟩:=hW;split at hW
      ·rename_i ag L ho;obtain⟨kt,ht⟩:=Lr hk;rw[he]at hx;obtain⟨_,_,b,f,hb,aT,jc,_⟩:=Ei h hx (id:=id) (ag:=ag) (L:=L) (by simp[mG,ho]);refine dy h ha hd (.lit _) hW ?_;simp[execOp,resolve,invoke,builtin,Builtin.len_,run_underlying ht,aT,goInt,MapKept.run_getObj_map jc,cY,rn]
      ·exact hW.elim
     ·exact hW.elim
    ·exact hW.elim
   case append =>
    simp only at hW;split at hW
    ·rename_i s x t t' b6 ka;have ea:=oI _ b6;have et:=Hw _ ka;subst ea;subst et;split at hW
     ·rename_i z pre σ1 sz src hk hz nW rm;obtain⟨⟨rfl,ec,aP,h0,nY,hlen,Eo,sR⟩,hK⟩:=hW;have afL:lW σ sz (ev σ s)=some (pre,σ1):=by rw[aP];exact nW
      obtain⟨qn,γ1,h1,h2,h3,h4,h5⟩:=afM (P:=P) (oty:=type) h hk ec hz aP h0 nY (E s) (E x) afL rm hlen Eo sR;refine CD (γ1:=γ1) h4 h3 (by rw[h2];exact ha) hd h5 hK ?_;simp[execOp,resolve,invoke,builtin,h1]
     ·exact hW.elim
    ·exact hW.elim
   case min =>
    simp only at hW;split at hW
    ·rename_i x y b6;have ea:=oI _ b6;subst ea;have hx:=E x;have hy:=E y;split at hW
     ·rename_i k p k' q he hf;rw[he]at hx;rw[hf]at hy;obtain⟨rfl,hK⟩:=hW;refine dy h ha hd (.lit _) hK ?_;have e:(if q<p then q else p)=min p q:=by simp only[Int.min_def];split<;>split<;>omega
      simp[execOp,resolve,invoke,builtin,Builtin.min_,Builtin.min2,hx.cF,hy.cF,e]
     ·exact hW.elim
    ·exact hW.elim
   case max =>
    simp only at hW;split at hW
    ·rename_i x y b6;have ea:=oI _ b6;subst ea;have hx:=E x;have hy:=E y;split at hW
     ·rename_i k p k' q he hf;rw[he]at hx;rw[hf]at hy;obtain⟨rfl,hK⟩:=hW;refine dy h ha hd (.lit _) hK ?_;have e:(if q > p then q else p)=max p q:=by simp only[Int.max_def];split<;>split<;>omega
      simp[execOp,resolve,invoke,builtin,Builtin.max_,Builtin.max2,hx.cF,hy.cF,e]
     ·exact hW.elim
    ·exact hW.elim
   case copy =>
    simp only at hW;split at hW
    ·rename_i s x t t' b6 ka;have ea:=oI _ b6;have et:=Hw _ ka;subst ea;subst et;have hs:=E s;split at hW
     ·rename_i id sz off len da src he rm;rw[he]at hs;split at hW
      ·rename_i lG rows ho;obtain⟨⟨hk,ec,rfl,rfl,aP,h0,sR⟩,hK⟩:=hW;obtain⟨w',h1,h2,h3⟩:=afN (P:=P) (t':=t') (oty:=type) h hk ec aP h0 hs (E x) ho rm sR;refine CD (γ1:={ γ with w:=w' }) h3 h2 ha hd (.lit _) hK ?_;simp[execOp,resolve,invoke,builtin,h1]
      ·exact hW.elim
     ·exact hW.elim
    ·exact hW.elim
   case clear =>
    simp only at hW;split at hW
    ·rename_i s t b6 ka;have ea:=oI _ b6;have et:=Hw _ ka;subst ea;subst et;have hs:=E s;split at hW
     ·rename_i id sz off len z he hz;rw[he]at hs;split at hW
      ·rename_i da rows ho;obtain⟨⟨hk,ec,rfl,nY,h0,ye⟩,hK⟩:=hW;obtain⟨w',h1,h2,h3⟩:=afO (P:=P) (oty:=type) h hk ec nY h0 hz ye hs ho;refine CD (γ1:={ γ with w:=w' }) h3 h2 ha hd (.lit _) hK ?_;simp[execOp,resolve,invoke,builtin,h1]
      ·exact hW.elim
     ·exact hW.elim
    ·exact hW.elim
   all_goals exact hW.elim
 case convert s d x =>
  simp only at hW;have hx:=E x;split at hW
  ·rename_i k k' n vo he;rw[he]at hx;obtain⟨hu,hK⟩:=hW;obtain⟨u,hu⟩:=Option.isSome_iff_exists.1 hu;refine dy h ha hd (.lit _) hK ?_;simp[execOp,convert,run_underlying hu,run_underlying vo,hx.cF,Conv.intToInt]
  ·exact hW.elim
 all_goals exact hW.elim
end Go.Am

