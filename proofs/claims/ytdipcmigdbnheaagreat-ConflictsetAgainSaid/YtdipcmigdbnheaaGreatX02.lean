import Derived.Test.YtdipcmigdbnheaaGreatX01
import Derived.MapKept
import Derived.Laws.StructEq
set_option linter.all false
set_option maxHeartbeats 0
set_option maxRecDepth 20000
open List renaming getElem?_take→rN,getElem?_drop→mY,getElem?_set→bV,getElem?_eq_some_iff→aM,ext_getElem→I5,length_append→bR,length_singleton→vI,mem_append→cj,mem_singleton→ew,getElem?_append_left→cd,getElem?_append_right→eu,getElem?_cons_zero→rL,ext_getElem?→mZ,length_set→bE,mem_or_eq_of_mem_set→pA,getElem?_eq_getElem→bT,getD_eq_getElem?_getD→aA,getElem?_concat_length→By,getElem?_map→cg,replicate→b6,range→aN,range_succ→uh,flatMap_append→qv
open Nat renaming add_mul→eX,le_refl→aG,sub_self→lV,ne_of_lt→k9,lt_or_ge→eh,sub_zero→vJ,zero_add→eW,add_assoc→ui
open Option renaming some→cT,map_some→fR,map_none→m0,getD_some→mo,bind_some→rM
open Array renaming range→EH,getElem?_eq_some_iff→nZ,getElem?_setIfInBounds_ne→vL,getElem?_toList→y9,getD_eq_getD_getElem?→eN
namespace Go.Am
def W2{P:Program}(w:World)(t e:TypeId)(a:Option Addr)(n c:Nat)(ht:P.underlying t=some (.slice e)):
  (binOp .eql t (.slice a n c) (.slice none 0 0)).run P w=.ok (.bool a.isNone) w:=by
 have h:∀ d:Nat,(Op.equalIn (d+1) t (.slice a n c) (.slice none 0 0)).run P w=.ok a.isNone w:=λd=>by
  cases a<;>simp[Op.equalIn,run_underlying ht]
 simp only[binOp];simp[Op.equal,Op.maxDepth,h 9999]
def W3{P:Program}(w:World)(t e:TypeId)(a:Option Addr)(n c:Nat)(ht:P.underlying t=some (.slice e)):
  (binOp .neq t (.slice a n c) (.slice none 0 0)).run P w=.ok (.bool (!a.isNone)) w:=by
 have h:∀ d:Nat,(Op.equalIn (d+1) t (.slice a n c) (.slice none 0 0)).run P w=.ok a.isNone w:=λd=>by
  cases a<;>simp[Op.equalIn,run_underlying ht]
 simp only[binOp];simp[Op.equal,Op.maxDepth,h 9999]
variable {P:Program}
def W4(w:World)(t:TypeId){e:TypeId}(a:Addr)(n c:Nat)(ht:P.underlying t=some (.slice e)):
  (binOp .eql t (.slice (some a) n c) (.slice none 0 0)).run P w=.ok (.bool false) w:=by
 have h:∀ d:Nat,(Op.equalIn (d+1) t (.slice (some a) n c) (.slice none 0 0)).run P w=.ok false w:=λd=>by
  simp[Op.equalIn,run_underlying ht]
 simp only[binOp];simp[Op.equal,Op.maxDepth,h 9999]
def W5(w:World)(t:TypeId){e:TypeId}(a:Addr)(n c:Nat)(ht:P.underlying t=some (.slice e)):
  (binOp .neq t (.slice (some a) n c) (.slice none 0 0)).run P w=.ok (.bool true) w:=by
 have h:∀ d:Nat,(Op.equalIn (d+1) t (.slice (some a) n c) (.slice none 0 0)).run P w=.ok false w:=λd=>by
  simp[Op.equalIn,run_underlying ht]
 simp only[binOp];simp[Op.equal,Op.maxDepth,h 9999]
def az.Fy{os:List Ob}{w:World}{Z:Nat->Prop}{blk:gn}{id r c:Nat}{cv:Value}(h:az os w Z blk (.ptr id r c) cv):
  os[id]?=some .gone\/(∃ b cap cells,os[id]?=some (.var cells)/\blk id=some (b,0,cap)/\r=0/\cv=.pointer (some ⟨b,c,none⟩)) \/
  (∃ sz b o cap rows,os[id]?=some (.arr sz rows)/\blk id=some (b,o,cap)/\cv=.pointer (some ⟨b,o+(r*sz+c),none⟩)):=by
 cases h with
 |bS _ _ h=>cases h
 |lC _ _ _ _ h=>exact .inl h
 |l4 _ _ b cap cells h hb=>exact .inr (.inl ⟨b,cap,cells,h,hb,rfl,rfl⟩)
 |mG _ _ _ sz b o cap rows h hb=>exact .inr (.inr ⟨sz,b,o,cap,rows,h,hb,rfl⟩)
def az.Li{os:List Ob}{w:World}{Z:Nat->Prop}{blk:gn}{cells:List AV}{cv:Value}(h:az os w Z blk (.cq cells) cv):
  ∃ b o,∃ f:Nat->Value,cv=.pointer (some ⟨b,o,none⟩)/\Z b/\(∀ j x,cells[j]?=some x->w.cell? ⟨b,o+j,none⟩=some (f j))/\∀ j x,cells[j]?=some x->gj w Z x (f j):=by
 cases h with
 |bS _ _ h=>cases h
 |cq _ b o f h1 h2 h3=>exact⟨b,o,f,rfl,h1,h2,h3⟩
def az.Fz{os:List Ob}{w:World}{Z:Nat->Prop}{blk:gn}{id sz off len:Nat}{cv:Value}(h:az os w Z blk (.ref id sz off len) cv):
  os[id]?=some .gone\/(os[id]?=some (.arr sz [])/\blk id=none/\off=0/\len=0/\cv=.slice none 0 0) \/
  (len=0/\∃ b x bo rows,os[id]?=some (.arr sz rows)/\blk id=some (b,bo)/\off<=rows.length/\cv=.slice (some ⟨b,x,none⟩) 0 0) \/
  (∃ b o cap cap' rows,os[id]?=some (.arr sz rows)/\blk id=some (b,o,cap)/\off+len<=rows.length/\off+cap'<=cap/\len<=cap'/\cv=.slice (some ⟨b,o+off*sz,none⟩) len cap'):=by
 cases h with
 |bS _ _ h=>cases h
 |j6 _ _ _ _ _ h=>exact .inl h
 |ll _ _ h hb=>exact .inr (.inl ⟨h,hb,rfl,rfl,rfl⟩)
 |lD _ _ _ b x bo rows h hb hl=>exact .inr (.inr (.inl ⟨rfl,b,x,bo,rows,h,hb,hl,rfl⟩))
 |ref _ _ _ _ b o cap cap' rows h hb hl hc kI=>exact .inr (.inr (.inr ⟨b,o,cap,cap',rows,h,hb,hl,hc,kI,rfl⟩))
def az.KR{os:List Ob}{w:World}{Z:Nat->Prop}{blk:gn}{cs:List AV}{cv:Value}(h:az os w Z blk (.agg cs) cv):
  ∃ a7,cv=.agg a7/\a7.size=cs.length/\∀ j x,cs[j]?=some x->az os w Z blk x (a7.getD j Go.undef):=by
 cases h with
 |bS _ _ h=>cases h
 |agg _ a7 h1 h2=>exact⟨a7,rfl,h1,h2⟩
def az.KS{os:List Ob}{w:World}{Z:Nat->Prop}{blk:gn}{cs:List AV}{cv:Value}(h:az os w Z blk (.bO cs) cv):
  ∃ a7,cv=.tuple a7/\a7.size=cs.length/\∀ j x,cs[j]?=some x->az os w Z blk x (a7.getD j Go.undef):=by
 cases h with
 |bS _ _ h=>cases h
 |bO _ a7 h1 h2=>exact⟨a7,rfl,h1,h2⟩
def az.K6{os:List Ob}{w:World}{Z:Nat->Prop}{blk:gn}{f:FuncId}{cs:List AV}{cv:Value}(h:az os w Z blk (.fn f cs) cv):
  ∃ a7,cv=.func (.func f) #[] a7/\a7.size=cs.length/\∀ j x,cs[j]?=some x->az os w Z blk x (a7.getD j Go.undef):=by
 cases h with
 |bS _ _ h=>cases h
 |fn _ _ a7 h1 h2=>exact⟨a7,rfl,h1,h2⟩
def az.K7{os:List Ob}{w:World}{Z:Nat->Prop}{blk:gn}{t:TypeId}{v:AV}{cv:Value}(h:az os w Z blk (.gm t v) cv):∃x,cv=.iface t x/\az os w Z blk v x:=by
 cases h with
 |bS _ _ h=>cases h
 |gm _ _ x h=>exact⟨x,rfl,h⟩
def gj.inv{w:World}{Z:Nat->Prop}{sz:Nat}{rows:List (List AV)}{cv:Value}(h:gj w Z (.tree sz rows) cv):
  (∃ a cap,rows=[]/\cv=.slice a 0 cap)\/∃ b o cap,∃ f:Nat->Nat->Value,cv=.slice (some ⟨b,o,none⟩) rows.length cap/\Z b/\(∀ row∈rows,row.length=sz)/\rows.length<=cap /\
   (∀ r c x,cellAt rows r c=some x->w.cell? ⟨b,o+(r*sz+c),none⟩=some (f r c))/\∀ r c x,cellAt rows r c=some x->gj w Z x (f r c):=by
 cases h with
 |nil _ cap a=>exact .inl ⟨a,cap,rfl,rfl⟩
 |tree _ _ b o cap f h1 h2 h3 h4 h5=>exact .inr ⟨b,o,cap,f,rfl,h1,h2,h3,h4,h5⟩
def gj.sub{w:World}{Z:Nat->Prop}{sz:Nat}{rows:List (List AV)}{b o cap cap':Nat}{f:Nat->Nat->Value}(hz:Z b)(hr:∀ row∈rows,row.length=sz)(hc:∀ r c x,cellAt rows r c=some x->w.cell? ⟨b,o+(r*sz+c),none⟩=some (f r c))(ht:∀ r c x,cellAt rows r c=some x->gj w Z x (f r c))(lo n:Nat)(hn:n<=cap')(_hcap:rows.length<=cap)(gI:lo+n<=rows.length):
  gj w Z (.tree sz ((rows.drop lo).take n)) (.slice (some ⟨b,o+lo*sz,none⟩) n cap'):=by
 have hlen:((rows.drop lo).take n).length=n:=aaZ;have m6:∀ r c x,cellAt ((rows.drop lo).take n) r c=some x->cellAt rows (lo+r) c=some x:=by
  intro r c x hx;simp only[cellAt,rN,mY]at hx;split at hx
  ·exact hx
  ·simp at hx
 have:=gj.tree (w:=w) (Z:=Z) sz ((rows.drop lo).take n) b (o+lo*sz) cap' (λr c=>f (lo+r) c) hz (λrow h=>hr row (List.mem_of_mem_drop (List.mem_of_mem_take h))) I6
  (λr c x hx=>by
   have h1:=hc _ _ _ (m6 r c x hx);rw[eX]at h1;have e:o+(lo*sz+r*sz+c)=o+lo*sz+(r*sz+c):=I6;rw[e]at h1;exact h1) (λr c x hx=>ht _ _ _ (m6 r c x hx))
 rw[hlen]at this;exact this
def Ce{o:Oper}{σ:St}{γ:Cx}{a:Act}{K:St->Prop}(h:bk σ γ)(ha:γ.tmps=a.tmps)(hd:∀ d,o.dst=some d->d<a.tmps.size){ob:Ob}{cur:Array Value}{t:TypeId}{cap:Nat}(aP:qO σ.aa γ.w γ.Z γ.blk 0 cap cur ob){v:AV}{cv:Value}(hv:az (σ.aa++[ob]) (γ.w.alloc (.cells cur t)) γ.Z (cM γ.blk σ.aa.length (some (γ.w.heap.size,0,cap))) v cv)(hK:K (({ σ with aa:=σ.aa++[ob] }:St).put o.dst v)){r:Result Next}(hr:r=.ok (.value cv) (γ.w.alloc (.cells cur t))):wg o σ γ a K r :=
 xN (σ1:={ σ with aa:=σ.aa++[ob] }) (γ1:={ γ with w:=γ.w.alloc (.cells cur t),blk:=cM γ.blk σ.aa.length (some (γ.w.heap.size,0,cap)) })
  (Fr.push (t:=t) (cur:=cur) ob rfl rfl rfl rfl) (h.push (t:=t) (cur:=cur) rfl aP) ha hd hv hK hr
def xO(ix:List (Value×Value)):(fI ix).toList=ix.mapIdx λi p=>(⟨p.1,p.2,i⟩:MapEntry):=by simp[fI]
def Lj(L:List (Value×Value))(p:Value×Value):(fI L).push ⟨p.1,p.2,L.length⟩=fI (L++[p]):=by
 apply Array.toList_inj.1;rw[Array.toList_push,xO,xO,List.mapIdx_append];simp
def FA(L:List (Value×Value))(i:Nat)(f:MapEntry->MapEntry)(p:Value×Value)(hf:∀ q,L[i]?=some q->f ⟨q.1,q.2,i⟩=⟨p.1,p.2,i⟩):(fI L).modify i f=fI (L.set i p):=by
 apply Array.ext_getElem?;intro j;rw[Array.getElem?_modify];simp only[fI,List.getElem?_toArray,List.getElem?_mapIdx,bV];by_cases h:i=j
 ·subst h;rw[if_pos rfl,if_pos rfl];cases hq:L[i]? with
  |none =>
   have:¬ i<L.length:=by
    have:=List.getElem?_eq_none_iff.1 hq;omega
   simp[this]
  |some q =>
   have:i<L.length:=(aM.1 hq).1;simp[this,hf q hq]
 ·rw[if_neg h,if_neg h]
def wi(ag:Nat)(f:Nat->Value)(L:List (List Int×AV)):(dg ag f L).length=L.length:=by unfold dg;simp
def qP(ag:Nat)(f:Nat->Value)(L:List (List Int×AV))(j:Nat):(dg ag f L)[j]?=(L[j]?).map λp=>(kV ag p.1,f j):=by unfold dg;simp
def wj{l:List Int}:∀ {L:List (List Int×AV)} {i j:Nat},jg l L i=some j->i<=j/\∃ v,L[j-i]?=some (l,v)
 |[],_,_,h=>by cases h
 |p::r,i,j,h=>by
  rw[jg]at h;split at h
  ·rename_i hp;cases h;exact⟨aG _,p.2,by rw[lV];simp[<- hp]⟩
  ·obtain⟨h1,v,h2⟩:=wj h;have e:j-i=(j-(i+1))+1:=I6;exact⟨I6,v,by rw[e,List.getElem?_cons_succ];exact h2⟩
def zH{σ:St}{γ:Cx}(h:bk σ γ){v:AV}{cv:Value}(hv:az σ.aa γ.w γ.Z γ.blk v cv){id ag:Nat}{L:List (List Int×AV)}(hm:kK σ v=some (id,ag,L)):
  v=.fT id/\σ.aa[id]?=some (.mp ag L)/\∃ b,∃ f:Nat->Value,γ.blk id=some (b,0,0)/\cv=.map (some b)/\γ.w.heap[b]?=some (.map (fI (dg ag f L)) L.length)/\(∀ p∈L,p.1.length=jA ag)/\∀ (j:Nat) p,L[j]?=some p->az σ.aa γ.w γ.Z γ.blk p.2 (f j):=by
 unfold kK at hm;split at hm
 ·rename_i vX;split at hm
  ·rename_i g7 L' ho;simp only[cT.injEq,Prod.mk.injEq]at hm;obtain⟨rfl,rfl,rfl⟩:=hm;obtain⟨b,f,h1,h2,h3,h4⟩:=h.ei _ _ ho;cases hv with
   |bS _ _ h=>cases h
   |oS _ _ h' _=>rw[ho]at h';simp at h'
   |fT _ b' _ _ h' hb =>
    rw[h1]at hb;simp only[cT.injEq,Prod.mk.injEq,and_true]at hb;subst hb;exact⟨rfl,ho,b,f,h1,rfl,h2,h3,h4⟩
  ·cases hm
 ·cases hm
def FB{os:List Ob}{w:World}{Z:Nat->Prop}{blk:gn}{v:AV}{cv:Value}(hv:az os w Z blk v cv){ag:Nat}{l:List Int}(hk:keyOf v=some (ag,l))(hl:l.length=jA ag):cv=kV ag l:=by
 unfold keyOf at hk;split at hk
 ·simp only[cT.injEq,Prod.mk.injEq]at hk;obtain⟨rfl,rfl⟩:=hk;rw[hv.cH];rfl
 ·rename_i cs;cases hi:nk cs with
  |none=>simp[hi]at hk
  |some as =>
   simp only[hi,fR,cT.injEq,Prod.mk.injEq]at hk;obtain⟨rfl,rfl⟩:=hk;have:=FC hv hi;rw[this];unfold jA at hl;unfold kV;by_cases h0:as.length=0
   ·rw[if_pos h0]at hl;omega
   ·rw[if_neg h0]
 ·cases hk
def W6{t:TypeId}{ag:Nat}(qQ:j4 P t ag){z:Value}{w:World}(hz:∀ kt et,P.underlying t=some (.map kt et)->(zeroValue et).run P w=.ok z w){b:Nat}{f:Nat->Value}{L:List (List Int×AV)}(hb:w.heap[b]?=some (.map (fI (dg ag f L)) L.length))(hL:∀ p∈L,p.1.length=jA ag){l:List Int}(hl:l.length=jA ag):
  (Instr.lookup t (.map (some b)) (kV ag l) false).run P w=.ok (((jg l L 0).map f).getD z) w:=by
 obtain⟨kt,et,ht,hk⟩:=qQ;obtain⟨h1,h2,h3⟩:=hk l hl;simp only[Instr.lookup,Sem.run_bind,run_underlying ht,MapKept.run_getObj_map hb,h1,h3 f L w hL,Result.andThen_ok,Sem.run_pure];cases h:jg l L 0 with
 |none=>simp[hz kt et ht]
 |some q=>simp
def W7{t:TypeId}{ag:Nat}(qQ:j4 P t ag){w:World}{b:Nat}{f:Nat->Value}{L:List (List Int×AV)}(hb:w.heap[b]?=some (.map (fI (dg ag f L)) L.length))(hL:∀ p∈L,p.1.length=jA ag){l:List Int}(hl:l.length=jA ag)(v:AV)(cv:Value):
  ∃ f':Nat->Value,(Instr.mapUpdate t (.map (some b)) (kV ag l) cv).run P w=.ok () { w with heap:=w.heap.setIfInBounds b (.map (fI (dg ag f' (e7 l v L))) (e7 l v L).length) } /\
   (∀ p∈e7 l v L,p.1.length=jA ag)/\∀ (j:Nat) p,(e7 l v L)[j]?=some p->(p.2=v/\f' j=cv)\/(L[j]?=some p/\f' j=f j):=by
 obtain⟨kt,et,ht,hk⟩:=qQ;obtain⟨h1,h2,h3⟩:=hk l hl;simp only[Instr.mapUpdate,Sem.run_bind,run_underlying ht,MapKept.run_getObj_map hb,h1,h3 f L w hL,Result.andThen_ok];unfold e7;cases h:jg l L 0 with
 |none =>
  refine⟨λj=>if j=L.length then cv else f j,?_,λp hp=>?_,λj p hp=>?_⟩
  ·have e:=Lj (dg ag f L) (kV ag l,cv);rw[wi]at e;have e2:dg ag f L++[(kV ag l,cv)]=dg ag (λj=>if j=L.length then cv else f j) (L++[(l,v)]):=by
    unfold dg;rw[List.mapIdx_append];congr 1
    ·apply I5
     ·simp
     ·intro j h5 h6;have:j<L.length:=by simpa using h5
      simp[k9 this]
    ·simp
   simp only[m0,MapKept.run_setObj_map _ hb,e,e2,bR,vI]
  ·rcases cj.1 hp with hp|hp
   ·exact hL p hp
   ·rw[ew.1 hp];exact hl
  ·rcases eh j L.length with hj|hj
   ·rw[cd hj]at hp;exact .inr ⟨hp,by dsimp only;rw[if_neg I6]⟩
   ·rw[eu hj]at hp;have:j=L.length:=by
     have:=(aM.1 hp).1;simp at this;omega
    subst this;simp only[lV,rL,cT.injEq]at hp;subst hp;exact .inl ⟨rfl,by dsimp only;rw[if_pos rfl]⟩
 |some q =>
  obtain⟨_,u,hu⟩:=wj h;rw[vJ]at hu;have hq:=(aM.1 hu).1;refine⟨λj=>if j=q then cv else f j,?_,λp hp=>?_,λj p hp=>?_⟩
  ·have FD:(((fI (dg ag f L))[q]?).map (·.key)).getD (kV ag l)=kV ag l:=by
    simp[fI,qP,hu]
   have e:=FA (dg ag f L) q (λe=>{ e with key:=kV ag l,val:=cv }) (kV ag l,cv) (λ_ _=>rfl);have e2:(dg ag f L).set q (kV ag l,cv)=dg ag (λj=>if j=q then cv else f j) (L.set q (l,v)):=by
    apply mZ;intro j;rw[bV,qP,qP,bV,wi];by_cases hj:q=j
    ·subst hj;simp[hq]
    ·rw[if_neg hj,if_neg hj,if_neg (Ne.symm hj)]
   simp only[fR,FD,h2,Result.andThen_ok,MapKept.run_setObj_map _ hb,Sem.run_bind];rw[e,e2,bE]
  ·rcases pA hp with hp|hp
   ·exact hL p hp
   ·rw[hp];exact hl
  ·simp only[bV]at hp;by_cases hj:q=j
   ·subst hj;rw[if_pos rfl,if_pos hq]at hp;cases hp;exact .inl ⟨rfl,by dsimp only;rw[if_pos rfl]⟩
   ·rw[if_neg hj]at hp;exact .inr ⟨hp,by dsimp only;rw[if_neg (Ne.symm hj)]⟩
def bk.W8{σ:St}{γ:Cx}(h:bk σ γ){id:Nat}{ob ob':Ob}(ho:σ.aa[id]?=some ob)(hg:ob≠.gone)(qH:ob.dP ob'){b o cap:Nat}(hb:γ.blk id=some (b,o,cap)){w':World}(mI:∀ k,k≠b->w'.heap[k]?=γ.w.heap[k]?):∀ v cv,az σ.aa γ.w γ.Z γ.blk v cv->az (σ.aa.set id ob') w' γ.Z γ.blk v cv:=by
 have cP:id<σ.aa.length:=(aM.1 ho).1;have n9:Live σ.aa id:=⟨ob,ho,hg⟩;exact λv cv hv =>
  hv.mono (λz hz=>⟨hz,mI z (λe=>h.nz b ⟨id,o,cap,n9,hb⟩ (e▸hz))⟩) (λi x hx=>by
   rw[bV];by_cases lF:id=i
   ·subst lF;rw[ho]at hx;simp at hx;subst hx;right;refine⟨rfl,ob',by simp[cP],qH⟩
   ·rw[if_neg lF];by_cases cK:x=.gone
    ·subst cK;exact .inl hx
    ·exact .inr ⟨rfl,x,hx,Ob.jz cK⟩)
def W9{t:TypeId}{ag:Nat}(qQ:j4 P t ag){z:Value}{w:World}(hz:∀ kt et,P.underlying t=some (.map kt et)->(zeroValue et).run P w=.ok z w){b:Nat}{f:Nat->Value}{L:List (List Int×AV)}(hb:w.heap[b]?=some (.map (fI (dg ag f L)) L.length))(hL:∀ p∈L,p.1.length=jA ag){l:List Int}(hl:l.length=jA ag):
  ∃ f':Nat->Value,(Instr.mapEntry t (.map (some b)) (kV ag l)).run P w=.ok (.tuple #[((jg l L 0).map f).getD z,.int .i64 (xH l L:Nat)]) { w with heap:=w.heap.setIfInBounds b (.map (fI (dg ag f' (e7 l ((mD l L).getD (.lit z)) L))) (e7 l ((mD l L).getD (.lit z)) L).length) } /\
   (∀ p∈e7 l ((mD l L).getD (.lit z)) L,p.1.length=jA ag)/\∀ (j:Nat) p,(e7 l ((mD l L).getD (.lit z)) L)[j]?=some p->(p.2=(mD l L).getD (.lit z)/\f' j=((jg l L 0).map f).getD z)\/(L[j]?=some p/\f' j=f j):=by
 obtain⟨kt,et,ht,hk⟩:=qQ;obtain⟨h1,h2,h3⟩:=hk l hl;generalize hv:(mD l L).getD (.lit z)=v;simp only[Instr.mapEntry,Sem.run_bind,run_underlying ht,MapKept.run_getObj_map hb,h1,h3 f L w hL,Result.andThen_ok];unfold e7 xH;cases h:jg l L 0 with
 |none =>
  refine⟨λj=>if j=L.length then z else f j,?_,λp hp=>?_,λj p hp=>?_⟩
  ·have e:=Lj (dg ag f L) (kV ag l,z);rw[wi]at e;have e2:dg ag f L++[(kV ag l,z)]=dg ag (λj=>if j=L.length then z else f j) (L++[(l,v)]):=by
    unfold dg;rw[List.mapIdx_append];congr 1
    ·apply I5
     ·simp
     ·intro j h5 h6;have:j<L.length:=by simpa using h5
      simp[k9 this]
    ·simp
   simp only[m0,hz kt et ht,Result.andThen_ok,MapKept.run_setObj_map _ hb,Sem.run_bind,e,e2,bR,vI,Sem.run_pure,Option.getD_none,goInt]
  ·rcases cj.1 hp with hp|hp
   ·exact hL p hp
   ·rw[ew.1 hp];exact hl
  ·rcases eh j L.length with hj|hj
   ·rw[cd hj]at hp;exact .inr ⟨hp,by dsimp only;rw[if_neg I6]⟩
   ·rw[eu hj]at hp;have:j=L.length:=by
     have:=(aM.1 hp).1;simp at this;omega
    subst this;simp only[lV,rL,cT.injEq]at hp;subst hp;exact .inl ⟨rfl,by dsimp only;rw[if_pos rfl];rfl⟩
 |some q =>
  obtain⟨_,u,hu⟩:=wj h;rw[vJ]at hu;have hq:=(aM.1 hu).1;refine⟨f,?_,λp hp=>?_,λj p hp=>?_⟩
  ·have FD:(((fI (dg ag f L))[q]?).map (·.key)).getD (kV ag l)=kV ag l:=by
    simp[fI,qP,hu]
   have Xa:(((fI (dg ag f L))[q]?).map (λe=>(e.born:Int))).getD 0=(q:Int):=by
    simp[fI,qP,hu]
   have e:=FA (dg ag f L) q (λe=>{ e with key:=kV ag l }) (kV ag l,f q) (λx hx=>by
    rw[qP,hu]at hx;cases hx;rfl)
   have e2:(dg ag f L).set q (kV ag l,f q)=dg ag f (L.set q (l,v)):=by
    apply mZ;intro j;rw[bV,qP,qP,bV,wi];by_cases hj:q=j
    ·subst hj;simp[hq]
    ·rw[if_neg hj,if_neg hj]
   simp only[fR,FD,h2,Result.andThen_ok,MapKept.run_setObj_map _ hb,Sem.run_bind,Sem.run_pure,Xa,mo,goInt];rw[e,e2,bE]
  ·rcases pA hp with hp|hp
   ·exact hL p hp
   ·rw[hp];exact hl
  ·simp only[bV]at hp;by_cases hj:q=j
   ·subst hj;rw[if_pos rfl,if_pos hq]at hp;cases hp;exact .inl ⟨rfl,rfl⟩
   ·rw[if_neg hj]at hp;exact .inr ⟨hp,rfl⟩
def Xj(ix:List (Value×Value)){n:Nat}(hn:n<ix.length):(fI ix).findIdx? (λe=>(e.born:Int)==(n:Int))=some n:=by
 unfold fI;rw[List.findIdx?_toArray,List.findIdx?_eq_some_iff_getElem];refine⟨by simpa using hn,Jd,λj hj=>?_⟩;simp only[List.getElem_mapIdx];simp;omega
def Xm{t:TypeId}{ag:Nat}{w:World}{b:Nat}{f:Nat->Value}{L:List (List Int×AV)}(hb:w.heap[b]?=some (.map (fI (dg ag f L)) L.length)){n:Nat}(hn:n<L.length)(v:AV)(cv:Value):
  (Instr.entryStore t (.map (some b)) (.int .i64 (n:Nat)) cv).run P w=.ok () { w with heap:=w.heap.setIfInBounds b (.map (fI (dg ag (λj=>if j=n then cv else f j) (n5 n v L))) (n5 n v L).length) }:=by
 have hf:=Xj (dg ag f L) (n:=n) (by rw[wi];exact hn);have e:=FA (dg ag f L) n (λe=>{ e with val:=cv }) (kV ag (L.getD n ([],.undef)).1,cv) (λx hx=>by
  rw[qP,bT hn]at hx;cases hx;rw[aA,bT hn];rfl)
 have e2:(dg ag f L).set n (kV ag (L.getD n ([],.undef)).1,cv)=dg ag (λj=>if j=n then cv else f j) (n5 n v L):=by
  unfold n5;apply mZ;intro j;rw[bV,qP,qP,bV,wi];by_cases hj:n=j
  ·subst hj;simp[hn]
  ·rw[if_neg hj,if_neg hj,if_neg (Ne.symm hj)]
 simp only[Instr.entryStore,Sem.run_bind,MapKept.run_getObj_map hb,asInt,asIntOf,Sem.run_pure,Result.andThen_ok,hf,MapKept.run_setObj_map _ hb];rw[e,e2];simp[n5]
def FE{P:Program}{t:TypeId}(h:(ty P t).kind=8):∃kt,P.underlying t=some (.map kt (ty P t).elem):=by
 unfold ty at h ⊢;cases hi:P.info? t<;>cases hd:P.underlying t<;>simp[hi,hd]at h ⊢;rename_i i d;cases d<;>simp at h ⊢
def WM{o:Oper}{σ:St}{K:St->Prop}(hW:cf P o σ K){γ:Cx}(h:bk σ γ){a:Act}(ha:γ.tmps=a.tmps)(hd:∀ d,o.dst=some d->d<a.tmps.size):
  wg o σ γ a K ((execOp a.eval o).run P γ.w):=by
 obtain⟨dst,op,type,pos,after,guard⟩:=o;unfold cf at hW;have E:=λx=>sc h ha x;cases op
 case move x=>exact c9 h ha hd (E x) hW (by simp[execOp])
 case assign x=>exact c9 h ha hd (E x) hW (by simp[execOp])
 case pick c x y =>
  simp only at hW;have hc:=E c;split at hW
  ·rename_i t he;rw[he]at hc;have a9:=hc.cH;refine c9 h ha hd (v:=eZ t (ev σ x) (ev σ y)) (cv:=if t then a.eval x else a.eval y) ?_ hW (by simp[execOp,a9,asBool]);unfold eZ;split
   ·rename_i x' y' h1 h2;have hx:=E x;have hy:=E y;rw[h1]at hx;rw[h2]at hy;rw[hx.cH,hy.cH];cases t<;>exact .lit _
   ·cases t
    ·exact E y
    ·exact E x
  ·exact hW.elim
 case alloc e =>
  simp only at hW;obtain⟨aJ,hW⟩:=hW;split at hW
  ·rename_i z hz;obtain⟨v,hv,Xp⟩:=Lk aJ hz γ.w;obtain⟨l1,l2⟩:=FF (os:=σ.aa) (w:=γ.w) (Z:=γ.Z) (blk:=γ.blk) z;refine Ce (ob:=.var (z.map .lit)) (v:=.ptr σ.aa.length 0 0) (cv:=.pointer (some ⟨γ.w.heap.size,0,none⟩)) (cap:=0) (cur:=z.toArray) (t:=e) h ha hd ⟨rfl,Jd,l2⟩ ?_ hW ?_
   ·exact .l4 _ 0 _ 0 _ (By ..) (by simp[cM])
   ·simp[execOp,Instr.alloc,hv,newVar,newRow,Xp]
  ·exact hW.elim
 case box e x =>
  simp only at hW;obtain⟨hs,hK⟩:=hW;obtain⟨c1,c2,c3⟩:=FG (E x) hs;refine Ce (ob:=.var (cellsOf (ev σ x))) (cv:=.pointer (some ⟨γ.w.heap.size,0,none⟩)) (cap:=0) (cur:=(a.eval x).cells) (t:=e) h ha hd ⟨rfl,c1,c2⟩ ?_ hK ?_
  ·exact .l4 _ 0 _ 0 _ (By ..) (by simp[cM])
  ·simp[execOp,Instr.box,newVar,newRow]
 case build t parts =>
  simp only at hW;split at hW
  ·rename_i z hk hz;split at hW
   ·rename_i cs hf;obtain⟨⟨hs,hp⟩,hK⟩:=hW;obtain⟨cur,h1,h2⟩:=Xt h ha hk hz hf hs hp;exact c9 h ha hd h2 hK (by simp only[execOp,Sem.run_bind,h1,Result.andThen_ok,Sem.run_pure])
   ·exact hW.elim
  ·rename_i z hk hz;split at hW
   ·rename_i cs hf;obtain⟨⟨hs,hp⟩,hK⟩:=hW;obtain⟨cur,h1,h2⟩:=XA h ha hk hz hf hs hp;exact c9 h ha hd h2 hK (by simp only[execOp,Sem.run_bind,h1,Result.andThen_ok,Sem.run_pure])
   ·exact hW.elim
  ·exact hW.elim
 case buildSlice t len parts =>
  simp only at hW;split at hW
  ·rename_i z hk hz;split at hW
   ·rename_i cs hf;obtain⟨⟨dO,h0,j7,FH,hs⟩,hK⟩:=hW;have ht:=qR hk;obtain⟨i,d,hi,Cf,qS,_,hzero⟩:=qT dO;obtain⟨zv,XB,je⟩:=Lk dO hz γ.w;have Cg:0<z.length:=by rw[j7];exact h0
    obtain⟨hl,hr⟩:=FI h ha parts;obtain⟨cur,f1,f2⟩:=Ch (σ:=σ) (γ:=γ) _ _ _ _ cs hl hr (λp hp=>by
     simp only[List.mem_map]at hp;obtain⟨q,hq,rfl⟩:=hp;rw[List.all_eq_true]at hs;exact hs q hq) (FJ z len (len*(ty P (ty P t).elem).size) (by rw[j7]) Cg) hf
    have aeF:cs.length=len*(ty P (ty P t).elem).size:=by
     have:=FJ (os:=σ.aa) (w:=γ.w) (Z:=γ.Z) (blk:=γ.blk) z len (len*(ty P (ty P t).elem).size) (by rw[j7]) Cg;have h1:∀ (parts:List (Nat×AV)) (cs oT:List AV) (place:Nat->Option (Nat×Nat)),lj place cs parts=some oT->oT.length=cs.length:=by
      intro parts
      induction parts with
      |nil=>intro cs oT place h;simp[lj]at h;rw[h]
      |cons p parts ih =>
       intro cs oT place h;obtain⟨i,v⟩:=p;simp only[lj]at h;split at h
       ·simp at h
       ·split at h
        ·rw[ih _ _ _ h,FL]
        ·simp at h
     rw[h1 _ _ _ _ hf,<- this.1];simp
    have hmul:len*(ty P (ty P t).elem).size<=16777216:=FH;have hlen:len<=maxLen:=by
     have:len*1<=len*(ty P (ty P t).elem).size:=Nat.mul_le_mul_left _ h0;unfold maxLen;omega
    have eB:(Instr.buildSlice t len (parts.map λ(i,x)=>(i,a.eval x))).run P γ.w=.ok (.slice (some ⟨γ.w.heap.size,0,none⟩) len len) (γ.w.alloc (.cells cur (ty P t).elem)):=by
     have xP:¬ (len*(ty P (ty P t).elem).size > 2^24):=I6;by_cases hl0:len*(ty P (ty P t).elem).size=0
     ·rw[hl0]at f1;have e0:((EH 0).map λx=>(#[]:Array Value)[x%(#[]:Array Value).size]!)=((EH 0).map (z.toArray[· % z.toArray.size]!)):=Jd;simp only[Instr.buildSlice,Sem.run_bind,run_underlying ht,Result.andThen_ok,run_sizeOf dO,if_false,hl0,if_true,Sem.run_pure,Nat.not_lt_zero,gt_iff_lt];rw[e0,f1];simp[newRow]
     simp only[Instr.buildSlice,Sem.run_bind,run_underlying ht,Result.andThen_ok,run_sizeOf dO,xP,if_false,hl0,XB,Sem.run_pure,je];rw[show((EH (len*(ty P (ty P t).elem).size)).map λx=>z.toArray[x%z.toArray.size]!)=((EH (len*(ty P (ty P t).elem).size)).map (z.toArray[· % z.toArray.size]!)) from rfl,f1];simp[newRow]
    refine Ce (ob:=.arr (ty P (ty P t).elem).size (lk (ty P (ty P t).elem).size len cs)) (cv:=.slice (some ⟨γ.w.heap.size,0,none⟩) len len) (cap:=len) (cur:=cur) (t:=(ty P t).elem) h ha hd ?_ ?_ hK ?_
    ·refine⟨h0,Ll _ _ _ I6,by rw[f2.1];omega,by rw[FM];omega,hlen,?_⟩;intro r c v hv;rw[eW];exact f2.2 _ _ (Lm _ _ _ _ _ _ hv)
    ·have:=az.ref (os:=σ.aa++[.arr (ty P (ty P t).elem).size (lk (ty P (ty P t).elem).size len cs)]) (w:=γ.w.alloc (.cells cur (ty P t).elem)) (Z:=γ.Z) (blk:=cM γ.blk σ.aa.length (some (γ.w.heap.size,0,len)))
      σ.aa.length (ty P (ty P t).elem).size 0 len γ.w.heap.size 0 len len _ (by simp;rfl) (by simp[cM]) (by rw[FM];omega) I6 (aG _)
     simpa using this
    ·simp only[execOp,Sem.run_bind,eB,Result.andThen_ok,Sem.run_pure]
   ·exact hW.elim
  ·exact hW.elim
 case load t x =>
  simp only at hW;obtain⟨hk,hW⟩:=hW;have hx:=E x;split at hW
  ·rename_i id r c he;rw[he]at hx;split at hW
   ·rename_i row aZ;obtain⟨v,ny,h1,h2,h3⟩:=Fq h hk hx aZ hW;exact c9 h ha hd h2 h3 (by simp only[execOp,Sem.run_bind,h1,Result.andThen_ok,Sem.run_pure])
   ·exact hW.elim
  ·rename_i cells he;rw[he]at hx;obtain⟨v,ny,h1,h2,h3⟩:=XC h hk hx hW;exact c9 h ha hd h2 h3 (by simp only[execOp,Sem.run_bind,h1,Result.andThen_ok,Sem.run_pure])
  ·exact hW.elim
 case store t x y =>
  simp only at hW;obtain⟨hk,hW⟩:=hW;have hx:=E x;split at hW
  ·rename_i id r c he;rw[he]at hx;split at hW
   ·rename_i row aZ;obtain⟨hc,hK⟩:=hW;obtain⟨w',h1,h2,h3⟩:=XD h hk hx aZ (E y) hc;exact FN h3 h2 ha hd hK (by simp only[execOp,Sem.run_bind,h1,Result.andThen_ok,Sem.run_pure])
   ·exact hW.elim
  ·exact hW.elim
 case nilCheck x =>
  simp only at hW;have hx:=E x;split at hW
  ·rename_i id r c he;rw[he]at hx;cases ho:σ.aa[id]? with
   |none=>simp[ho]at hW
   |some ob =>
    have cp:ob≠.gone/\K (σ.put dst (.ptr id r c)):=by cases ob<;>simp[ho]at hW ⊢<;>exact hW
    have a9 :∃ad,a.eval x=.pointer (some ad):=by
     rcases hx.Fy with h|⟨b,cap,cells,_,_,_,h⟩|⟨_,b,o,cap,rows,_,_,h⟩
     ·rw[ho]at h;simp at h;exact absurd h cp.1
     ·exact⟨_,h⟩
     ·exact⟨_,h⟩
    obtain⟨ad,a9⟩:=a9;exact c9 h ha hd hx cp.2 (by simp[execOp,a9])
  ·rename_i cells he;rw[he]at hx;have a9 :∃ad,a.eval x=.pointer (some ad):=by
    obtain⟨b,o,f,h,_⟩:=hx.Li;exact⟨_,h⟩
   obtain⟨ad,a9⟩:=a9;exact c9 h ha hd hx hW (by simp[execOp,a9])
  ·exact hW.elim
 case binOp op t x y yt =>
  simp only at hW;have hx:=E x;have hy:=E y;split at hW
  ·rename_i k p k' q he hf;rw[he]at hx;rw[hf]at hy;obtain⟨rfl,hW⟩:=hW;obtain⟨v,h1,h2⟩:=XE (P:=P) hW t γ.w;refine c9 h ha hd (.lit v) h2 ?_;simp[execOp,hx.cH,hy.cH,eqGuard,h1]
  ·rename_i p q he hf;rw[he]at hx;rw[hf]at hy;obtain⟨hk,hW⟩:=hW;have ht:=XF hk;split at hW
   ·refine c9 h ha hd (.lit _) hW ?_;simp[execOp,hx.cH,hy.cH,eqGuard,run_eql_bool γ.w t p q ht]
   ·refine c9 h ha hd (.lit _) hW ?_;simp[execOp,hx.cH,hy.cH,eqGuard,run_neq_bool γ.w t p q ht,bne]
   ·exact hW.elim
  ·rename_i sz rows he hf;rw[he]at hx;rw[hf]at hy;obtain⟨⟨hk,hr⟩,hW⟩:=hW;have ht:=qR hk;rcases hx.v8.inv with⟨ad,cap,rfl,a9⟩|⟨b,o,cap,f,a9,_⟩
   ·exact absurd hr Jd
   split at hW
   ·refine c9 h ha hd (.lit _) hW ?_;simp[execOp,a9,hy.cH,eqGuard,W4 γ.w t _ _ _ ht]
   ·refine c9 h ha hd (.lit _) hW ?_;simp[execOp,a9,hy.cH,eqGuard,W5 γ.w t _ _ _ ht]
   ·exact hW.elim
  ·rename_i ad n c he hf;rw[he]at hx;rw[hf]at hy;obtain⟨hk,hW⟩:=hW;have ht:=qR hk;split at hW
   ·refine c9 h ha hd (.lit _) hW ?_;simp[execOp,hx.cH,hy.cH,eqGuard,W2 γ.w t _ _ _ _ ht]
   ·refine c9 h ha hd (.lit _) hW ?_;simp[execOp,hx.cH,hy.cH,eqGuard,W3 γ.w t _ _ _ _ ht]
   ·exact hW.elim
  ·rename_i cs ds he hf;rw[he]at hx;rw[hf]at hy;split at hW
   ·rename_i as bs zI FO;obtain⟨⟨hq,hlen,xQ⟩,hW⟩:=hW;have zJ:=FC hx zI;have wm:=FC hy FO;have heq:=hq γ.w as bs rfl hlen;split at hW
    ·refine c9 h ha hd (.lit _) hW ?_;simp only[execOp,zJ,wm,Sem.run_bind,run_eqGuard_agg γ.w _ _ _ _ _ _ xQ,run_eql_struct,heq,Result.andThen_ok,Sem.run_pure]
    ·refine c9 h ha hd (.lit _) hW ?_;simp only[execOp,zJ,wm,Sem.run_bind,run_eqGuard_agg γ.w _ _ _ _ _ _ xQ,run_neq_struct,heq,Result.andThen_ok,Sem.run_pure]
    ·exact hW.elim
   ·exact hW.elim
  ·exact hW.elim
 case unOp op t x =>
  simp only at hW;have hx:=E x;split at hW
  ·rename_i b he;rw[he]at hx;exact c9 h ha hd (.lit _) hW (by simp[execOp,hx.cH,Op.unary])
  ·rename_i k n he;rw[he]at hx;exact c9 h ha hd (.lit _) hW.2 (by simp[execOp,hx.cH,Op.unary,Op.intArith,uH hW.1])
  ·exact hW.elim
 case makeMap t r =>
  simp only at hW;obtain⟨⟨rfl,hk⟩,hK⟩:=hW;refine xN (σ1:={ σ with aa:=σ.aa++[.mp (xG P t) []] }) (γ1:={ γ with w:=γ.w.alloc (.map #[] 0),blk:=cM γ.blk σ.aa.length (some (γ.w.heap.size,0,0)) })
   (Fr.zK (cap:=0) _ rfl rfl rfl rfl) (h.zK (cap:=0) rfl λos' w' jL hR hb hx=>⟨_,λ_=>Go.undef,hb,hx,Jd,Jd⟩) ha hd
   (v:=.fT σ.aa.length) (cv:=.map (some γ.w.heap.size)) (.fT _ _ _ _ (By ..) (by simp[cM])) hK ?_
  simp[execOp,Instr.makeMap,newObj,Sem.run]
 case lookup t x i ok =>
  simp only at hW;split at hW
  ·rename_i ag l id g7 L z gT nA l7;obtain⟨⟨qQ,rfl,hl,Ci,rfl⟩,hK⟩:=hW;obtain⟨kt,ht⟩:=FE Ci;obtain⟨_,ho,b,f,hb,a9,jC,hL,kM⟩:=zH h (E x) nA;have zL:=FB (E i) gT hl;have hz:∀ zN wo,P.underlying t=some (.map zN wo)->(zeroValue wo).run P γ.w=.ok z γ.w:=by
    intro zN wo h';rw[ht]at h';cases h';unfold zeroV at l7;split at l7
    ·rename_i ii hi;simp[zeroValue,typeInfo,hi,l7]
    ·cases l7
   have eB:=W6 (P:=P) qQ hz jC hL hl;refine c9 (cv:=((jg l L 0).map f).getD z) h ha hd ?_ hK (by simp only[execOp,a9,zL,Sem.run_bind,eB,Result.andThen_ok,Sem.run_pure]);unfold mD;cases hf:jg l L 0 with
   |none=>exact .lit z
   |some q =>
    obtain⟨_,u,hu⟩:=wj hf;rw[vJ]at hu;simp only[rM,hu,fR,mo];exact kM q _ hu
  ·exact hW.elim
 case mapUpdate t m k x =>
  simp only at hW;split at hW
  ·rename_i ag l id g7 L gT nA;obtain⟨⟨qQ,rfl,hl⟩,hK⟩:=hW;obtain⟨_,ho,b,f,hb,a9,jC,hL,kM⟩:=zH h (E m) nA;have zL:=FB (E k) gT hl;obtain⟨f',eB,FQ,fD⟩:=W7 (P:=P) qQ jC hL hl (ev σ x) (a.eval x);have l8:b<γ.w.heap.size:=(nZ.1 jC).1;refine FN (σ1:={ σ with aa:=σ.aa.set id (.mp g7 (e7 l (ev σ x) L)) }) (γ1:={ γ with w:={ γ.w with heap:=γ.w.heap.setIfInBounds b (.map (fI (dg g7 f' (e7 l (ev σ x) L))) (e7 l (ev σ x) L).length) } })
    (Fr.write (.mp g7 (e7 l (ev σ x) L)) ho Jd rfl hb (λk hk=>by simp[vL (Ne.symm hk)]) Jd rfl rfl rfl)
    (h.Cj (ob':=.mp g7 (e7 l (ev σ x) L)) ho Jd rfl hb (λk hk=>by simp[vL (Ne.symm hk)]) Jd λos' hR=>⟨b,f',hb,by simp[l8],FQ,λj p hp=>?_⟩) ha hd hK ?_
   ·rcases fD j p hp with⟨h1,h2⟩|⟨h1,h2⟩
    ·rw[h1,h2];exact hR _ _ (E x)
    ·rw[h2];exact hR _ _ (kM j p h1)
   ·simp only[execOp,a9,zL,Sem.run_bind,eB,Result.andThen_ok,Sem.run_pure]
  ·exact hW.elim
 case mapEntry t m k =>
  simp only at hW;split at hW
  ·rename_i ag l id g7 L z gT nA l7;obtain⟨⟨qQ,rfl,hl,Ci⟩,hK⟩:=hW;obtain⟨kt,ht⟩:=FE Ci;obtain⟨_,ho,b,f,hb,a9,jC,hL,kM⟩:=zH h (E m) nA;have zL:=FB (E k) gT hl;have hz:∀ zN wo,P.underlying t=some (.map zN wo)->(zeroValue wo).run P γ.w=.ok z γ.w:=by
    intro zN wo h';rw[ht]at h';cases h';unfold zeroV at l7;split at l7
    ·rename_i ii hi;simp[zeroValue,typeInfo,hi,l7]
    ·cases l7
   obtain⟨f',eB,FQ,fD⟩:=W9 (P:=P) qQ hz jC hL hl;have l8:b<γ.w.heap.size:=(nZ.1 jC).1;have hold:az σ.aa γ.w γ.Z γ.blk ((mD l L).getD (.lit z)) (((jg l L 0).map f).getD z):=by
    unfold mD;cases hf:jg l L 0 with
    |none=>exact .lit z
    |some q =>
     obtain⟨_,u,hu⟩:=wj hf;rw[vJ]at hu;simp only[rM,hu,fR,mo];exact kM q _ hu
   generalize (mD l L).getD (.lit z)=v at *;generalize ((jg l L 0).map f).getD z=cv at *;have XG:∀ x y,az σ.aa γ.w γ.Z γ.blk x y->az (σ.aa.set id (.mp g7 (e7 l v L))) { γ.w with heap:=γ.w.heap.setIfInBounds b (.map (fI (dg g7 f' (e7 l v L))) (e7 l v L).length) } γ.Z γ.blk x y :=
    h.W8 (ob':=.mp g7 (e7 l v L)) ho Jd rfl hb (λk hk=>by simp[vL (Ne.symm hk)])
   refine xN (σ1:={ σ with aa:=σ.aa.set id (.mp g7 (e7 l v L)) }) (γ1:={ γ with w:={ γ.w with heap:=γ.w.heap.setIfInBounds b (.map (fI (dg g7 f' (e7 l v L))) (e7 l v L).length) } })
    (Fr.write (.mp g7 (e7 l v L)) ho Jd rfl hb (λk hk=>by simp[vL (Ne.symm hk)]) Jd rfl rfl rfl)
    (h.Cj (ob':=.mp g7 (e7 l v L)) ho Jd rfl hb (λk hk=>by simp[vL (Ne.symm hk)]) Jd λos' hR=>⟨b,f',hb,by simp[l8],FQ,λj p hp=>?_⟩) ha hd
    (v:=.bO [v,aa3 (xH l L:Nat)]) (cv:=.tuple #[cv,.int .i64 (xH l L:Nat)]) (.bO _ _ rfl λj x hx=>?_) hK ?_
   ·rcases fD j p hp with⟨h1,h2⟩|⟨h1,h2⟩
    ·rw[h1,h2];exact hR _ _ hold
    ·rw[h2];exact hR _ _ (kM j p h1)
   ·match j,hx with
    |0,hx=>cases hx;exact XG _ _ hold
    |1,hx=>cases hx;exact .lit _
   ·simp only[execOp,a9,zL,Sem.run_bind,eB,Result.andThen_ok,Sem.run_pure]
  ·exact hW.elim
 case entryStore t m s x =>
  simp only at hW;split at hW
  ·rename_i n id ag L hs nA;obtain⟨⟨e9,fV⟩,hK⟩:=hW;obtain⟨_,ho,b,f,hb,a9,jC,hL,kM⟩:=zH h (E m) nA;have Ck:=E s;rw[hs]at Ck;have fl:=Ck.cH;have hn:n=((n.toNat:Nat):Int):=I6;have eB:=Xm (P:=P) (t:=t) jC (n:=n.toNat) I6 (ev σ x) (a.eval x);rw[<- hn]at eB;have l8:b<γ.w.heap.size:=(nZ.1 jC).1;refine FN (σ1:={ σ with aa:=σ.aa.set id (.mp ag (n5 n.toNat (ev σ x) L)) }) (γ1:={ γ with w:={ γ.w with heap:=γ.w.heap.setIfInBounds b (.map (fI (dg ag (λj=>if j=n.toNat then a.eval x else f j) (n5 n.toNat (ev σ x) L))) (n5 n.toNat (ev σ x) L).length) } })
    (Fr.write (.mp ag (n5 n.toNat (ev σ x) L)) ho Jd rfl hb (λk hk=>by simp[vL (Ne.symm hk)]) Jd rfl rfl rfl)
    (h.Cj (ob':=.mp ag (n5 n.toNat (ev σ x) L)) ho Jd rfl hb (λk hk=>by simp[vL (Ne.symm hk)]) Jd λos' hR=>⟨b,λj=>if j=n.toNat then a.eval x else f j,hb,by simp only[Array.getElem?_setIfInBounds_self_of_lt l8],λp hp=>?_,λj p hp=>?_⟩) ha hd hK ?_
   ·unfold n5 at hp;rcases pA hp with hp|hp
    ·exact hL p hp
    ·have nx:n.toNat<L.length:=I6;rw[hp,aA,bT nx];exact hL L[n.toNat] (List.getElem_mem nx)
   ·unfold n5 at hp;simp only[bV]at hp;by_cases hj:n.toNat=j
    ·subst hj;rw[if_pos rfl,if_pos I6]at hp;cases hp;dsimp only;rw[if_pos rfl];exact hR _ _ (E x)
    ·rw[if_neg hj]at hp;dsimp only;rw[if_neg (Ne.symm hj)];exact hR _ _ (kM j p hp)
   ·simp only[execOp,a9,fl,Sem.run_bind,eB,Result.andThen_ok,Sem.run_pure]
  ·exact hW.elim
 case index t x i =>
  simp only at hW;split at hW
  ·rename_i s k n hs hi;obtain⟨⟨hu,e9,fV⟩,hK⟩:=hW;have hx:=E x;rw[hs]at hx;have hj:=E i;rw[hi]at hj;have bq:n.toNat<s.size:=I6;have hg:s[n.toNat]?=some s[n.toNat]:=by simp[bq]
   refine c9 h ha hd (.lit _) hK ?_;simp only[execOp,hx.cH,hj.cH,Instr.index,asIntOf,Sem.run_bind,Sem.run_pure,Result.andThen_ok,run_underlying hu,if_pos e9,hg,Ff]
  ·exact hW.elim
 case makeInterface t x =>
  simp only at hW;obtain⟨h1,hK⟩:=hW;refine c9 h ha hd (v:=.gm t (ev σ x)) (cv:=.iface t (a.eval x)) (.gm _ _ _ (E x)) hK ?_;unfold ta at h1;cases hu:P.underlying t with
  |none=>simp[hu]at h1
  |some d=>cases d<;>simp[hu]at h1<;>simp[execOp,Instr.makeInterface,run_underlying hu]
 case typeAssert x xt asserted ok =>
  simp only at hW;have hx:=E x;split at hW
  ·rename_i t v he;rw[he]at hx;obtain⟨cx,hc,hv⟩:=hx.K7;obtain⟨⟨h1,rfl,rfl⟩,hK⟩:=hW;refine c9 h ha hd hv hK ?_;unfold ta at h1;cases hu:P.underlying t with
   |none=>simp[hu]at h1
   |some d=>cases d<;>simp[hu]at h1<;>simp[execOp,hc,Instr.typeAssert,run_underlying hu]
  ·exact hW.elim
 case makeFunc fn first captured =>
  simp only at hW;split at hW
  ·rename_i f;obtain⟨hf,hK⟩:=hW;have XH:first = #[]:=Array.eq_empty_of_size_eq_zero hf
   subst XH;refine c9 h ha hd (v:=.fn f (captured.toList.map (ev σ))) (cv:=.func (.func f) #[] (captured.map a.eval)) ?_ hK (by simp[execOp,Instr.makeFunc]);refine .fn _ _ _ Jd (λj x hj=>?_);simp only[cg]at hj;cases hc:captured.toList[j]? with
   |none=>simp[hc]at hj
   |some y =>
    simp[hc]at hj;subst hj;simp only[y9]at hc;simp[eN,hc];exact E y
  ·exact hW.elim
 case makeSlice t l c =>
  simp only at hW;have hl:=E l;have hc:=E c;split at hW
  ·rename_i z k n k' n' hk hz he hf;rw[he]at hl;rw[hf]at hc;obtain⟨⟨dO,h0,j7,rfl,e9,fV,zO,_⟩,hK,_⟩:=hW;have ht:=qR hk;obtain⟨i,d,hi,Cf,qS,zP,hzero⟩:=qT dO;obtain⟨zv,wq,je⟩:∃zv,i.zero=some zv/\zv.cells=z.toArray:=by
    rw[hzero]at hz;cases hv:i.zero with
    |none=>simp[hv]at hz
    |some v=>simp[hv]at hz;exact⟨v,rfl,by rw[<- hz]⟩
   have hb:(i.bytes:Int)*n'<=281474976710656:=by
    have h1:(i.bytes:Int)<=128:=by rw[<- zP];exact_mod_cast zO
    have h2:(i.bytes:Int)*n'<=128*n':=Int.mul_le_mul_of_nonneg_right h1 e9;omega
   have hr:=run_make (P:=P) γ.w t _ i zv ht hi wq k k' n' n' e9 (Int.le_refl _) hb I6;rw[<- qS,je]at hr;have Cg:0<z.length:=by rw[j7];exact h0
   obtain⟨z1,z2⟩:=FJ (os:=σ.aa) (w:=γ.w) (Z:=γ.Z) (blk:=γ.blk) z n'.toNat (n'.toNat*(ty P (ty P t).elem).size) (by rw[j7]) Cg;refine Ce (ob:=.arr (ty P (ty P t).elem).size (b6 n'.toNat (z.map .lit))) (cv:=.slice (some ⟨γ.w.heap.size,0,none⟩) n'.toNat n'.toNat) (cap:=n'.toNat) (cur:=madeCells z.toArray (n'.toNat*(ty P (ty P t).elem).size)) (t:=(ty P t).elem) h ha hd ?_ ?_ hK ?_
   ·refine⟨h0,?_,by rw[size_madeCells];omega,Jd,by unfold maxLen;omega,?_⟩
    ·intro row aZ;simp only[List.mem_replicate]at aZ;rw[aZ.2];simp[j7]
    ·intro r c v hv;rw[eW];have cD:r<n'.toNat:=by
      simp only[cellAt,Option.bind_eq_some_iff]at hv;obtain⟨y,hy,_⟩:=hv;have:=(aM.1 hy).1;simpa using this
     simp only[cellAt,List.getElem?_replicate,cD,if_true,rM]at hv;have cy:c<(ty P (ty P t).elem).size:=by
      have:=(aM.1 hv).1;simp at this;omega
     have bq:=v9 cD cy;have hx:((aN n'.toNat).flatMap λ_=>z.map AV.lit)[r*(ty P (ty P t).elem).size+c]?=some v:=by
      have key:∀ (m r:Nat),r<m->((aN m).flatMap λ_=>z.map AV.lit)[r*z.length+c]?=(z.map AV.lit)[c]?:=by
       intro m;have hlen:∀ m,((aN m).flatMap λ_=>z.map AV.lit).length=m*z.length:=by
        intro m
        induction m with
        |zero=>simp
        |succ m ih=>rw[uh,qv,bR,ih];simp[eX]
       induction m with
       |zero=>intro r hr;omega
       |succ m ih =>
        intro r hr;rw[uh,qv];by_cases nC:r<m
        ·rw[cd (by rw[hlen,j7];exact v9 nC cy)];exact ih r nC
        ·have:r=m:=I6;subst this;rw[eu (by rw[hlen];omega),hlen];simp
      rw[<- j7,key _ _ cD];exact hv
     exact z2 _ _ hx
   ·have:=az.ref (os:=σ.aa++[.arr (ty P (ty P t).elem).size (b6 n'.toNat (z.map .lit))]) (w:=γ.w.alloc (.cells (madeCells z.toArray (n'.toNat*(ty P (ty P t).elem).size)) (ty P t).elem)) (Z:=γ.Z) (blk:=cM γ.blk σ.aa.length (some (γ.w.heap.size,0,n'.toNat)))
     σ.aa.length (ty P (ty P t).elem).size 0 n'.toNat γ.w.heap.size 0 n'.toNat n'.toNat _ (By ..) (by simp[cM]) Jd I6 (aG _)
    simpa using this
   ·simp only[execOp,Sem.run_bind,hl.cH,hc.cH,hr,Result.andThen_ok,Sem.run_pure]
  ·exact hW.elim
 case fieldAddr s x f =>
  simp only at hW;have hx:=E x;split at hW
  ·rename_i off ft size hk eA;obtain⟨a6,hW⟩:=hW;obtain⟨fs,hu,tp⟩:=FR hk;obtain⟨fd,Cl,v3,iy⟩:∃fd:Field,fs[f]?=some fd/\fd.offset=off/\tq P fd.type=size:=by
    rw[tp]at eA;simp only[cg,y9]at eA;cases hg:fs[f]? with
    |none=>simp[hg]at eA
    |some fd=>simp[hg]at eA;exact⟨fd,rfl,eA.1,eA.2.2⟩
   have eB:∀ (b o:Nat),(Instr.fieldAt s (.pointer (some ⟨b,o,none⟩)) f).run P γ.w=.ok (.pointer (some ⟨b,o+off,none⟩)) γ.w:=by
    intro b o;have XI:(sizeOf fd.type).run P γ.w=.ok size γ.w:=by
     rw[<- iy];unfold tq at iy ⊢;cases hi:P.info? fd.type with
     |none=>rw[hi]at iy;simp at iy;omega
     |some i=>simp[sizeOf,typeInfo,hi]
    have df:¬ size=0:=I6;simp[Instr.fieldAt,run_underlying hu,Cl,Instr.sureAddr,fieldPlace,XI,df,Addr.pS,v3]
   split at hW
   ·rename_i id r c he;rw[he]at hx;cases ho:σ.aa[id]? with
    |none=>simp[ho]at hW
    |some ob =>
     have cp:ob≠.gone/\K (σ.put dst (.ptr id r (c+off))):=by cases ob<;>simp[ho]at hW ⊢<;>exact hW
     rcases hx.Fy with hg|⟨b,cap,cells,h1,h2,rfl,a9⟩|⟨sz,b,o,cap,rows,h1,h2,a9⟩
     ·rw[ho]at hg;simp at hg;exact absurd hg cp.1
     ·exact c9 h ha hd (.l4 id (c+off) b cap cells h1 h2) cp.2 (by simp only[execOp,Sem.run_bind,a9,eB,Result.andThen_ok,Sem.run_pure])
     ·refine c9 h ha hd (.mG id r (c+off) sz b o cap rows h1 h2) cp.2 ?_;simp only[execOp,Sem.run_bind,a9,eB,Result.andThen_ok,Sem.run_pure];simp[ui]
   ·rename_i cells he;rw[he]at hx;obtain⟨b,o,g,a9,h1,h2,h3⟩:=hx.Li;refine c9 h ha hd (.cq (cells.drop off) b (o+off) (λj=>g (off+j)) h1 ?_ ?_) hW ?_
    ·intro j x hj;rw[mY]at hj;have:=h2 _ _ hj;simpa [ui] using this
    ·intro j x hj;rw[mY]at hj;exact h3 _ _ hj
    ·simp only[execOp,Sem.run_bind,a9,eB,Result.andThen_ok,Sem.run_pure]
   ·exact hW.elim
  ·exact hW.elim
 case extract x i =>
  simp only at hW;have hx:=E x;split at hW
  ·rename_i vs he;rw[he]at hx;obtain⟨a7,a9,hs,hr⟩:=hx.KS;split at hW
   ·rename_i v hv;have hi:i<a7.size:=by rw[hs];exact(aM.1 hv).1
    refine c9 h ha hd (hr i v hv) hW ?_;simp[execOp,a9,Instr.extract,hi,eN]
   ·exact hW.elim
  ·exact hW.elim
 case field s x f =>
  simp only at hW;have hx:=E x;split at hW
  ·rename_i off ft size hk eA;obtain⟨dO,qS,hW⟩:=hW;obtain⟨fs,hu,tp⟩:=FR hk;obtain⟨fd,Cl,v3,iy⟩:∃fd:Field,fs[f]?=some fd/\fd.offset=off/\fd.type=ft:=by
    rw[tp]at eA;simp only[cg,y9]at eA;cases hg:fs[f]? with
    |none=>simp[hg]at eA
    |some fd=>simp[hg]at eA;exact⟨fd,rfl,eA.1,eA.2.1⟩
   subst v3;subst iy;split at hW
   ·rename_i cs he;rw[he]at hx;obtain⟨a7,a9,hs,hr⟩:=hx.KR;split at hW
    ·rename_i iR;refine c9 h ha hd (v:=.agg ((cs.drop fd.offset).take size)) (cv:=.agg (a7.extract fd.offset (fd.offset+size))) ?_ hW.2 ?_
     ·have h1:=hW.1;refine .agg _ _ aaZ (λj y hj=>?_);have kL:j<size:=by have:=(aM.1 hj).1;simp at this;omega
      rw[rN,if_pos kL,mY]at hj;have:=hr _ _ hj;simp[eN,Array.getElem?_extract]at this ⊢;rw[if_pos I6];exact this
     ·simp[execOp,a9,Instr.field,run_underlying hu,Cl,asAgg,part,FT dO,run_sizeOf dO,iR,qS]
    ·rename_i iR;split at hW
     ·rename_i v hv;have hi:fd.offset<a7.size:=by rw[hs];exact(aM.1 hv).1
      refine c9 h ha hd (hr _ v hv) hW ?_;simp[execOp,a9,Instr.field,run_underlying hu,Cl,asAgg,part,FT dO,iR,hi,eN]
     ·exact hW.elim
   ·exact hW.elim
  ·exact hW.elim
 case indexAddr t x i =>
  simp only at hW;have hx:=E x;have hi:=E i;split at hW
  ·rename_i id sz off len k n hk he hf;rw[he]at hx;rw[hf]at hi;split at hW
   ·rename_i cJ rows ho;obtain⟨⟨rfl,a6,dO,h0,h1⟩,hK⟩:=hW;have ht:=qR hk;rcases hx.Fz with hg|⟨_,_,_,rfl,_⟩|⟨rfl,_⟩|⟨b,o,cap,cap',fE,g1,g2,g3,g4,g5,a9⟩
    ·rw[ho]at hg;simp at hg
    ·omega
    ·omega
    ·refine c9 h ha hd (.mG id (off+n.toNat) 0 _ b o cap fE g1 g2) hK ?_;have hc:0<=n/\n<(len:Int):=⟨h0,h1⟩;simp only[execOp,Sem.run_bind,Instr.indexAt,a9,hi.cH,asIntOf,Sem.run_pure,Result.andThen_ok,run_underlying ht,Sem.run_ite,hc,and_self,if_true,run_sizeOf dO,<- a6,Addr.pS];simp[eX,ui]
   ·exact hW.elim
  ·rename_i sz rows k n hk he hf;rw[he]at hx;rw[hf]at hi;obtain⟨⟨a6,dO,h0,h1⟩,hK⟩:=hW;have ht:=qR hk;rcases hx.v8.inv with⟨ad,cap,rfl,a9⟩|⟨b,o,cap,f,a9,g1,g2,g3,g4,g5⟩
   ·simp at h1;omega
   ·have hn:n.toNat<rows.length:=I6;refine c9 h ha hd (.cq (rows.getD n.toNat []) b (o+n.toNat*sz) (λj=>f n.toNat j) g1 ?_ ?_) hK ?_
    ·intro j y hj;have:cellAt rows n.toNat j=some y:=by
      rw[aA]at hj;simp[hn]at hj;simp[cellAt,hn,hj]
     have:=g4 _ _ _ this;simpa [ui] using this
    ·intro j y hj;have:cellAt rows n.toNat j=some y:=by
      rw[aA]at hj;simp[hn]at hj;simp[cellAt,hn,hj]
     exact g5 _ _ _ this
    ·have hc:0<=n/\n<(rows.length:Int):=⟨h0,I6⟩;simp only[execOp,Sem.run_bind,Instr.indexAt,a9,hi.cH,asIntOf,Sem.run_pure,Result.andThen_ok,run_underlying ht,Sem.run_ite,hc,and_self,if_true,run_sizeOf dO,<- a6,Addr.pS]
  ·rename_i id r c k n hk he hf;rw[he]at hx;rw[hf]at hi;cases ho:σ.aa[id]? with
   |none=>simp[ho]at hW
   |some ob =>
    have cp:ob≠.gone/\((ty P (ty P t).elem).kind≠99/\0<=n/\n<(ty P t).len)/\K (σ.put dst (.ptr id r (c+n.toNat*(ty P (ty P t).elem).size))):=by cases ob<;>simp[ho]at hW ⊢<;>exact hW
    obtain⟨oa,⟨dO,h0,h1⟩,hK⟩:=cp;have ht:=Ln hk;have hc:0<=n/\n<((ty P t).len:Int):=⟨h0,h1⟩;rcases hx.Fy with hg|⟨b,cap,cells,h1,h2,rfl,a9⟩|⟨sz,b,o,cap,rows,h1,h2,a9⟩
    ·rw[ho]at hg;simp at hg;exact absurd hg oa
    ·refine c9 h ha hd (.l4 id _ b cap cells h1 h2) hK ?_;simp only[execOp,Sem.run_bind,Instr.indexAt,a9,hi.cH,asIntOf,Sem.run_pure,Result.andThen_ok,run_underlying ht,Instr.sureAddr,Sem.run_ite,hc,and_self,if_true,run_sizeOf dO,Addr.pS]
    ·refine c9 h ha hd (.mG id r _ sz b o cap rows h1 h2) hK ?_;simp only[execOp,Sem.run_bind,Instr.indexAt,a9,hi.cH,asIntOf,Sem.run_pure,Result.andThen_ok,run_underlying ht,Instr.sureAddr,Sem.run_ite,hc,and_self,if_true,run_sizeOf dO,Addr.pS];simp[ui]
  ·exact hW.elim
 case slice t x lo hi mx =>
  simp only at hW;obtain⟨hk,dO,rfl,hW⟩:=hW;have ht:=qR hk;have hx:=E x;have eB:∀ (ad:Option Addr) (len cap l h:Nat) (lo hi:Option Value),(lo=none/\l=0\/∃ k,lo=some (.int k (l:Int)))->(hi=none/\h=len\/∃ k,hi=some (.int k (h:Int)))->l<=h->h<=cap ->
    (ty P (ty P t).elem).kind≠99->(Instr.sliceAt t (.slice ad len cap) lo hi none).run P γ.w=.ok (.slice (if cap=l then ad else ad.map (·.add (l*(ty P (ty P t).elem).size))) (h-l) (cap-l)) γ.w:=by
   intro ad len cap l h lo hi gI mJ h1 h2 dO;have c1:(l:Int)<=h:=I6;have c2:(h:Int)<=cap:=I6;rcases gI with⟨rfl,rfl⟩|⟨k,rfl⟩<;>rcases mJ with⟨rfl,rfl⟩|⟨k',rfl⟩ <;>
    simp[Instr.sliceAt,Instr.slice,Instr.sliceBounds,Instr.sliceBound,asIntOf,run_underlying ht,run_sizeOf dO,h1,h2]
  split at hW
  ·rename_i id sz off len he;rw[he]at hx;split at hW
   ·rename_i cJ rows ho;obtain⟨rfl,a6,hW⟩:=hW;obtain⟨h0,cD,_⟩:=h.ei _ _ ho;have key:∀ (l hh:Nat) (kl hi':Option Operand),(kl.map a.eval=none/\l=0\/∃ k,kl.map a.eval=some (.int k (l:Int)))->(hi'.map a.eval=none/\hh=len\/∃ k,hi'.map a.eval=some (.int k (hh:Int)))->l<=hh->hh<=len ->
      K (σ.put dst (.ref id cJ (off+l) (hh-l)))->wg ⟨dst,.slice t x kl hi' none,type,pos,after,guard⟩ σ γ a K ((execOp a.eval ⟨dst,.slice t x kl hi' none,type,pos,after,guard⟩).run P γ.w):=by
     intro l hh kl hi' gI mJ h1 h2 hK;rcases hx.Fz with hg|⟨g1,g2,rfl,rfl,a9⟩|⟨rfl,b,xx,bo,fE,g1,g2,g3,a9⟩|⟨b,o,cap,cap',fE,g1,g2,g3,g4,g5,a9⟩
     ·rw[ho]at hg;simp at hg
     ·have:l=0:=I6;subst this;have:hh=0:=I6;subst this;refine c9 (o:=⟨dst,.slice t x kl hi' none,type,pos,after,guard⟩) h ha hd (.ll id _ g1 g2) hK ?_;have:=eB none 0 0 0 0 _ _ gI mJ I6 I6 dO;simp only[execOp,Sem.run_bind,a9,m0,this,Result.andThen_ok,Sem.run_pure];simp
     ·have:l=0:=I6;subst this;have:hh=0:=I6;subst this;refine c9 (o:=⟨dst,.slice t x kl hi' none,type,pos,after,guard⟩) h ha hd (.lD id _ _ b xx bo fE g1 g2 I6) hK ?_;have:=eB (some ⟨b,xx,none⟩) 0 0 0 0 _ _ gI mJ I6 I6 dO;simp only[execOp,Sem.run_bind,a9,m0,this,Result.andThen_ok,Sem.run_pure];simp
     ·have hr:=eB (some ⟨b,o+off*cJ,none⟩) len cap' l hh _ _ gI mJ h1 I6 dO;by_cases hm:cap'=l
      ·have e1:hh=l:=I6;subst e1;rw[if_pos hm]at hr;have e2:hh-hh=0:=I6;have e3:cap'-hh=0:=I6;rw[e2,e3]at hr;rw[e2]at hK;refine c9 (o:=⟨dst,.slice t x kl hi' none,type,pos,after,guard⟩) h ha hd (.lD id _ _ b (o+off*cJ) (o,cap) fE g1 g2 I6) hK ?_;simp only[execOp,Sem.run_bind,a9,m0,hr,Result.andThen_ok,Sem.run_pure]
      ·rw[if_neg hm]at hr;refine c9 (o:=⟨dst,.slice t x kl hi' none,type,pos,after,guard⟩) h ha hd (.ref id _ (off+l) (hh-l) b o cap (cap'-l) fE g1 g2 I6 I6 I6) hK ?_;simp only[execOp,Sem.run_bind,a9,m0,hr,Result.andThen_ok,Sem.run_pure,fR,Addr.pS,<- a6];simp[eX,ui]
    split at hW
    ·rename_i e1 e2;have gI:lo=none:=by cases lo<;>simp at e1 ⊢
     have mJ:hi=none:=by cases hi<;>simp at e2 ⊢
     subst gI;subst mJ;exact key 0 len none none (.inl ⟨rfl,rfl⟩) (.inl ⟨rfl,rfl⟩) I6 (aG _) (by simpa using hW)
    ·rename_i k l e1 e2;have mJ:hi=none:=by cases hi<;>simp at e2 ⊢
     subst mJ;obtain⟨lo,rfl,f1⟩:∃y,lo=some y/\ev σ y=.lit (.int k l):=by cases lo<;>simp at e1 ⊢;exact e1
     obtain⟨⟨c1,c2,_⟩,hK⟩:=hW;have hl:=E lo;rw[f1]at hl;refine key l.toNat len (some lo) none (.inr ⟨k,?_⟩) (.inl ⟨rfl,rfl⟩) I6 (aG _) hK;simp[hl.cH];omega
    ·rename_i k hh e1 e2;have gI:lo=none:=by cases lo<;>simp at e1 ⊢
     subst gI;obtain⟨hi,rfl,f2⟩:∃y,hi=some y/\ev σ y=.lit (.int k hh):=by cases hi<;>simp at e2 ⊢;exact e2
     obtain⟨⟨c1,c2⟩,hK⟩:=hW;have hl:=E hi;rw[f2]at hl;refine key 0 hh.toNat none (some hi) (.inl ⟨rfl,rfl⟩) (.inr ⟨k,?_⟩) I6 I6 (by simpa using hK);simp[hl.cH];omega
    ·rename_i k l k' hh e1 e2;obtain⟨lo,rfl,f1⟩:∃y,lo=some y/\ev σ y=.lit (.int k l):=by cases lo<;>simp at e1 ⊢;exact e1
     obtain⟨hi,rfl,f2⟩:∃y,hi=some y/\ev σ y=.lit (.int k' hh):=by cases hi<;>simp at e2 ⊢;exact e2
     obtain⟨⟨c1,c2,c3⟩,hK⟩:=hW;have hl:=E lo;have zQ:=E hi;rw[f1]at hl;rw[f2]at zQ;refine key l.toNat hh.toNat (some lo) (some hi) (.inr ⟨k,?_⟩) (.inr ⟨k',?_⟩) I6 I6 hK
     ·simp[hl.cH];omega
     ·simp[zQ.cH];omega
    ·exact hW.elim
   ·exact hW.elim
  ·rename_i sz rows he;rw[he]at hx;obtain⟨a6,hW⟩:=hW;have key:∀ (l hh:Nat) (kl hi':Option Operand),(kl.map a.eval=none/\l=0\/∃ k,kl.map a.eval=some (.int k (l:Int)))->(hi'.map a.eval=none/\hh=rows.length\/∃ k,hi'.map a.eval=some (.int k (hh:Int)))->l<=hh->hh<=rows.length ->
     K (σ.put dst (.tree sz ((rows.drop l).take (hh-l))))->wg ⟨dst,.slice t x kl hi' none,type,pos,after,guard⟩ σ γ a K ((execOp a.eval ⟨dst,.slice t x kl hi' none,type,pos,after,guard⟩).run P γ.w):=by
    intro l hh kl hi' gI mJ h1 h2 hK;rcases hx.v8.inv with⟨ad,cap,rfl,a9⟩|⟨b,o,cap,f,a9,g1,g2,g3,g4,g5⟩
    ·have e1:hh=0:=by simpa using h2
     subst e1;have e2:l=0:=I6;subst e2;have hr:=eB ad 0 cap 0 0 _ _ gI mJ I6 I6 dO;refine c9 (o:=⟨dst,.slice t x kl hi' none,type,pos,after,guard⟩) h ha hd (v:=.tree sz (([].drop 0).take (0-0))) (cv:=.slice (if cap=0 then ad else ad.map (·.add (0*(ty P (ty P t).elem).size))) (0-0) (cap-0)) (.bS _ _ (.nil sz (cap-0) _)) hK ?_;simp only[execOp,Sem.run_bind,a9,m0,hr,Result.andThen_ok,Sem.run_pure]
    ·have hr:=eB (some ⟨b,o,none⟩) rows.length cap l hh _ _ gI mJ h1 I6 dO;by_cases od:hh-l=0
     ·have e:(rows.drop l).take (hh-l)=[]:=by rw[od];simp
      rw[e]at hK;rw[od]at hr;refine c9 (o:=⟨dst,.slice t x kl hi' none,type,pos,after,guard⟩) h ha hd (v:=.tree sz []) (cv:=.slice (if cap=l then some ⟨b,o,none⟩ else(some (⟨b,o,none⟩:Addr)).map (·.add (l*(ty P (ty P t).elem).size))) 0 (cap-l)) (.bS _ _ (.nil sz (cap-l) _)) hK ?_;simp only[execOp,Sem.run_bind,a9,m0,hr,Result.andThen_ok,Sem.run_pure]
     ·have df:¬ cap=l:=I6;rw[if_neg df]at hr;have XJ:rows≠[]:=by intro e;subst e;simp at h2;omega
      refine c9 (o:=⟨dst,.slice t x kl hi' none,type,pos,after,guard⟩) h ha hd (.bS _ _ (gj.sub g1 g2 g4 g5 l (hh-l) (cap':=cap-l) I6 g3 I6)) hK ?_;simp only[execOp,Sem.run_bind,a9,m0,hr,Result.andThen_ok,Sem.run_pure,fR,Addr.pS,<- a6 XJ]
   split at hW
   ·rename_i e1 e2;have gI:lo=none:=by cases lo<;>simp at e1 ⊢
    have mJ:hi=none:=by cases hi<;>simp at e2 ⊢
    subst gI;subst mJ;exact key 0 rows.length none none (.inl ⟨rfl,rfl⟩) (.inl ⟨rfl,rfl⟩) I6 (aG _) (by simpa using hW)
   ·rename_i k l e1 e2;have mJ:hi=none:=by cases hi<;>simp at e2 ⊢
    subst mJ;obtain⟨lo,rfl,f1⟩:∃y,lo=some y/\ev σ y=.lit (.int k l):=by cases lo<;>simp at e1 ⊢;exact e1
    obtain⟨⟨c1,c2⟩,hK⟩:=hW;have hl:=E lo;rw[f1]at hl;refine key l.toNat rows.length (some lo) none (.inr ⟨k,?_⟩) (.inl ⟨rfl,rfl⟩) I6 (aG _) ?_
    ·simp[hl.cH];omega
    ·have e:(rows.drop l.toNat).take (rows.length-l.toNat)=rows.drop l.toNat:=List.take_of_length_le Jd;rw[e];exact hK
   ·rename_i k hh e1 e2;have gI:lo=none:=by cases lo<;>simp at e1 ⊢
    subst gI;obtain⟨hi,rfl,f2⟩:∃y,hi=some y/\ev σ y=.lit (.int k hh):=by cases hi<;>simp at e2 ⊢;exact e2
    obtain⟨⟨c1,c2⟩,hK⟩:=hW;have hl:=E hi;rw[f2]at hl;refine key 0 hh.toNat none (some hi) (.inl ⟨rfl,rfl⟩) (.inr ⟨k,?_⟩) I6 I6 (by simpa using hK);simp[hl.cH];omega
   ·rename_i k l k' hh e1 e2;obtain⟨lo,rfl,f1⟩:∃y,lo=some y/\ev σ y=.lit (.int k l):=by cases lo<;>simp at e1 ⊢;exact e1
    obtain⟨hi,rfl,f2⟩:∃y,hi=some y/\ev σ y=.lit (.int k' hh):=by cases hi<;>simp at e2 ⊢;exact e2
    obtain⟨⟨c1,c2,c3⟩,hK⟩:=hW;have hl:=E lo;have zQ:=E hi;rw[f1]at hl;rw[f2]at zQ;refine key l.toNat hh.toNat (some lo) (some hi) (.inr ⟨k,?_⟩) (.inr ⟨k',?_⟩) I6 I6 ?_
    ·simp[hl.cH];omega
    ·simp[zQ.cH];omega
    ·rw[<- List.drop_take];exact hK
   ·exact hW.elim
  ·exact hW.elim
 case call c =>
  obtain⟨callee,args,argTypes⟩:=c;have lZ:∀ l,args.toList=l->args=l.toArray:=by intro l h;rw[<- h]
  have Cm:∀ l,argTypes.toList=l->argTypes=l.toArray:=by intro l h;rw[<- h]
  cases callee with
  |value f=>exact hW.elim
  |invoke r m=>exact hW.elim
  |builtin b =>
   cases b
   case len =>
    simp only at hW;split at hW
    ·rename_i x t cZ jK;have ea:=lZ _ cZ;have et:=Cm _ jK;subst ea;subst et;have hx:=E x;have eB:(ty P t).kind=1->∀ ad n c,a.eval x=.slice ad n c->(execOp a.eval ⟨dst,.call ⟨.builtin .len,[x].toArray,[t].toArray⟩,type,pos,after,guard⟩).run P γ.w=.ok (.value (.int .i64 (n:Int))) γ.w:=by
      intro hk ad n c hc;have ht:=qR hk;simp[execOp,resolve,invoke,builtin,Builtin.len_,run_underlying ht,hc,goInt]
     split at hW
     ·rename_i id sz off len he;rw[he]at hx;obtain⟨hk,hW⟩:=hW;split at hW
      ·rename_i cJ rows ho;rcases hx.Fz with hg|⟨_,_,_,rfl,a9⟩|⟨rfl,_,_,_,_,_,_,_,a9⟩|⟨b,o,cap,cap',fE,g1,g2,g3,g4,g5,a9⟩
       ·rw[ho]at hg;simp at hg
       ·exact c9 h ha hd (.lit _) hW.2 (eB hk _ _ _ a9)
       ·exact c9 h ha hd (.lit _) hW.2 (eB hk _ _ _ a9)
       ·exact c9 h ha hd (.lit _) hW.2 (eB hk _ _ _ a9)
      ·exact hW.elim
     ·rename_i sz rows he;rw[he]at hx;rcases hx.v8.inv with⟨ad,cap,rfl,a9⟩|⟨b,o,cap,f,a9,_⟩
      ·exact c9 h ha hd (.lit _) hW.2 (eB hW.1 _ _ _ a9)
      ·exact c9 h ha hd (.lit _) hW.2 (eB hW.1 _ _ _ a9)
     ·rename_i he;rw[he]at hx;exact c9 h ha hd (.lit _) hW.2 (eB hW.1 _ _ _ hx.cH)
     ·rename_i id he;obtain⟨hk,hW⟩:=hW;split at hW
      ·rename_i ag L ho;obtain⟨kt,ht⟩:=FE hk;rw[he]at hx;obtain⟨_,_,b,f,hb,a9,jC,_⟩:=zH h hx (id:=id) (ag:=ag) (L:=L) (by simp[kK,ho]);refine c9 h ha hd (.lit _) hW ?_;simp[execOp,resolve,invoke,builtin,Builtin.len_,run_underlying ht,a9,goInt,MapKept.run_getObj_map jC,fI,wi]
      ·exact hW.elim
     ·exact hW.elim
    ·exact hW.elim
   case append =>
    simp only at hW;split at hW
    ·rename_i s x t t' cZ jK;have ea:=lZ _ cZ;have et:=Cm _ jK;subst ea;subst et;split at hW
     ·rename_i z pre σ1 sz src hk hz zF qN;obtain⟨⟨rfl,dO,a6,h0,j7,hlen,zO,lG⟩,hK⟩:=hW;have XK:oR σ sz (ev σ s)=some (pre,σ1):=by rw[a6];exact zF
      obtain⟨ny,γ1,h1,h2,h3,h4,h5⟩:=XL (P:=P) (oty:=type) h hk dO hz a6 h0 j7 (E s) (E x) XK qN hlen zO lG;refine xN (γ1:=γ1) h4 h3 (by rw[h2];exact ha) hd h5 hK ?_;simp[execOp,resolve,invoke,builtin,h1]
     ·exact hW.elim
    ·exact hW.elim
   case min =>
    simp only at hW;split at hW
    ·rename_i x y cZ;have ea:=lZ _ cZ;subst ea;have hx:=E x;have hy:=E y;split at hW
     ·rename_i k p k' q he hf;rw[he]at hx;rw[hf]at hy;obtain⟨rfl,hK⟩:=hW;refine c9 h ha hd (.lit _) hK ?_;have e:(if q<p then q else p)=min p q:=by simp only[Int.min_def];split<;>split<;>omega
      simp[execOp,resolve,invoke,builtin,Builtin.min_,Builtin.min2,hx.cH,hy.cH,e]
     ·exact hW.elim
    ·exact hW.elim
   case max =>
    simp only at hW;split at hW
    ·rename_i x y cZ;have ea:=lZ _ cZ;subst ea;have hx:=E x;have hy:=E y;split at hW
     ·rename_i k p k' q he hf;rw[he]at hx;rw[hf]at hy;obtain⟨rfl,hK⟩:=hW;refine c9 h ha hd (.lit _) hK ?_;have e:(if q > p then q else p)=max p q:=by simp only[Int.max_def];split<;>split<;>omega
      simp[execOp,resolve,invoke,builtin,Builtin.max_,Builtin.max2,hx.cH,hy.cH,e]
     ·exact hW.elim
    ·exact hW.elim
   case copy =>
    simp only at hW;split at hW
    ·rename_i s x t t' cZ jK;have ea:=lZ _ cZ;have et:=Cm _ jK;subst ea;subst et;have hs:=E s;split at hW
     ·rename_i id sz off len cJ src he qN;rw[he]at hs;split at hW
      ·rename_i j5 rows ho;obtain⟨⟨hk,dO,rfl,rfl,a6,h0,lG⟩,hK⟩:=hW;obtain⟨w',h1,h2,h3⟩:=XM (P:=P) (t':=t') (oty:=type) h hk dO a6 h0 hs (E x) ho qN lG;refine xN (γ1:={ γ with w:=w' }) h3 h2 ha hd (.lit _) hK ?_;simp[execOp,resolve,invoke,builtin,h1]
      ·exact hW.elim
     ·exact hW.elim
    ·exact hW.elim
   case clear =>
    simp only at hW;split at hW
    ·rename_i s t cZ jK;have ea:=lZ _ cZ;have et:=Cm _ jK;subst ea;subst et;have hs:=E s;split at hW
     ·rename_i id sz off len z he hz;rw[he]at hs;split at hW
      ·rename_i cJ rows ho;obtain⟨⟨hk,dO,rfl,j7,h0,Co⟩,hK⟩:=hW;obtain⟨w',h1,h2,h3⟩:=XN (P:=P) (oty:=type) h hk dO j7 h0 hz Co hs ho;refine xN (γ1:={ γ with w:=w' }) h3 h2 ha hd (.lit _) hK ?_;simp[execOp,resolve,invoke,builtin,h1]
      ·exact hW.elim
     ·exact hW.elim
    ·exact hW.elim
   all_goals exact hW.elim
 case convert s d x =>
  simp only at hW;have hx:=E x;split at hW
  ·rename_i k k' n qK he;rw[he]at hx;obtain⟨hu,hK⟩:=hW;obtain⟨u,hu⟩:=Option.isSome_iff_exists.1 hu;refine c9 h ha hd (.lit _) hK ?_;simp[execOp,convert,run_underlying hu,run_underlying qK,hx.cH,Conv.intToInt]
  ·exact hW.elim
 all_goals exact hW.elim
end Go.Am

