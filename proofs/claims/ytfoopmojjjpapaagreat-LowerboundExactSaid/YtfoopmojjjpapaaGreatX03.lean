import Derived.Test.YtfoopmojjjpapaaGreatX02
import Derived.MapKept
import Derived.Laws.StructEq
set_option linter.all false
set_option maxHeartbeats 0
set_option maxRecDepth 20000
open List renaming getElem?_take→uY,getElem?_drop→nW,getElem?_set→bP,getElem?_eq_some_iff→aR,ext_getElem→N',length_append→bL,length_singleton→y7,mem_append→cT,mem_singleton→c8,getElem?_append_left→eL,getElem?_append_right→gZ,getElem?_cons_zero→uW,ext_getElem?→pZ,length_set→bw,mem_or_eq_of_mem_set→tP,getElem?_eq_getElem→bq,getD_eq_getElem?_getD→ax,getElem?_concat_length→EZ,getElem?_map→bV,replicate→aO,range→bk,range_succ→tR,flatMap_append→tS
open Nat renaming add_mul→fh,le_refl→aX,sub_self→kW,ne_of_lt→nw,lt_or_ge→du,sub_zero→uZ,zero_add→fc,add_assoc→tU
open Option renaming some→cy,map_some→gF,map_none→p7,getD_some→mI,bind_some→r8
open Array renaming range→IL,getElem?_eq_some_iff→nu,getElem?_setIfInBounds_ne→tQ,getElem?_toList→CE,getD_eq_getD_getElem?→eA
namespace Go.Am
def adb{P:Program}(w:World)(t e:TypeId)(a:Option Addr)(n c:Nat)(ht:P.underlying t=some (.slice e)):
  (binOp .eql t (.slice a n c) (.slice none 0 0)).run P w=.ok (.bool a.isNone) w:=by
 have h:∀ d:Nat,(Op.equalIn (d+1) t (.slice a n c) (.slice none 0 0)).run P w=.ok a.isNone w:=λd=>by
  cases a<;>simp[Op.equalIn,run_underlying ht]
 simp only[binOp];simp[Op.equal,Op.maxDepth,h 9999]
def ade{P:Program}(w:World)(t e:TypeId)(a:Option Addr)(n c:Nat)(ht:P.underlying t=some (.slice e)):
  (binOp .neq t (.slice a n c) (.slice none 0 0)).run P w=.ok (.bool (!a.isNone)) w:=by
 have h:∀ d:Nat,(Op.equalIn (d+1) t (.slice a n c) (.slice none 0 0)).run P w=.ok a.isNone w:=λd=>by
  cases a<;>simp[Op.equalIn,run_underlying ht]
 simp only[binOp];simp[Op.equal,Op.maxDepth,h 9999]
variable {P:Program}
def adf(w:World)(t:TypeId){e:TypeId}(a:Addr)(n c:Nat)(ht:P.underlying t=some (.slice e)):
  (binOp .eql t (.slice (some a) n c) (.slice none 0 0)).run P w=.ok (.bool false) w:=by
 have h:∀ d:Nat,(Op.equalIn (d+1) t (.slice (some a) n c) (.slice none 0 0)).run P w=.ok false w:=λd=>by
  simp[Op.equalIn,run_underlying ht]
 simp only[binOp];simp[Op.equal,Op.maxDepth,h 9999]
def adg(w:World)(t:TypeId){e:TypeId}(a:Addr)(n c:Nat)(ht:P.underlying t=some (.slice e)):
  (binOp .neq t (.slice (some a) n c) (.slice none 0 0)).run P w=.ok (.bool true) w:=by
 have h:∀ d:Nat,(Op.equalIn (d+1) t (.slice (some a) n c) (.slice none 0 0)).run P w=.ok false w:=λd=>by
  simp[Op.equalIn,run_underlying ht]
 simp only[binOp];simp[Op.equal,Op.maxDepth,h 9999]
def aw.JG{os:List Ob}{w:World}{Z:Nat->Prop}{blk:fR}{id r c:Nat}{cv:Value}(h:aw os w Z blk (.ptr id r c) cv):
  os[id]?=some .gone\/(∃ b cap cells,os[id]?=some (.var cells)/\blk id=some (b,0,cap)/\r=0/\cv=.pointer (some ⟨b,c,none⟩)) \/
  (∃ sz b o cap rows,os[id]?=some (.arr sz rows)/\blk id=some (b,o,cap)/\cv=.pointer (some ⟨b,o+(r*sz+c),none⟩)):=by
 cases h with
 |cC _ _ h=>cases h
 |mN _ _ _ _ h=>exact .inl h
 |nF _ _ b cap cells h hb=>exact .inr (.inl ⟨b,cap,cells,h,hb,rfl,rfl⟩)
 |oc _ _ _ sz b o cap rows h hb=>exact .inr (.inr ⟨sz,b,o,cap,rows,h,hb,rfl⟩)
def aw.JH{os:List Ob}{w:World}{Z:Nat->Prop}{blk:fR}{cells:List AV}{cv:Value}(h:aw os w Z blk (.bY cells) cv):
  ∃ b o,∃ f:Nat->Value,cv=.pointer (some ⟨b,o,none⟩)/\Z b/\(∀ j x,cells[j]?=some x->w.cell? ⟨b,o+j,none⟩=some (f j))/\∀ j x,cells[j]?=some x->hJ w Z x (f j):=by
 cases h with
 |cC _ _ h=>cases h
 |bY _ b o f h1 h2 h3=>exact⟨b,o,f,rfl,h1,h2,h3⟩
def aw.JI{os:List Ob}{w:World}{Z:Nat->Prop}{blk:fR}{id sz off len:Nat}{cv:Value}(h:aw os w Z blk (.ref id sz off len) cv):
  os[id]?=some .gone\/(os[id]?=some (.arr sz [])/\blk id=none/\off=0/\len=0/\cv=.slice none 0 0) \/
  (len=0/\∃ b x bo rows,os[id]?=some (.arr sz rows)/\blk id=some (b,bo)/\off<=rows.length/\cv=.slice (some ⟨b,x,none⟩) 0 0) \/
  (∃ b o cap cap' rows,os[id]?=some (.arr sz rows)/\blk id=some (b,o,cap)/\off+len<=rows.length/\off+cap'<=cap/\len<=cap'/\cv=.slice (some ⟨b,o+off*sz,none⟩) len cap'):=by
 cases h with
 |cC _ _ h=>cases h
 |ki _ _ _ _ _ h=>exact .inl h
 |lJ _ _ h hb=>exact .inr (.inl ⟨h,hb,rfl,rfl,rfl⟩)
 |mg _ _ _ b x bo rows h hb hl=>exact .inr (.inr (.inl ⟨rfl,b,x,bo,rows,h,hb,hl,rfl⟩))
 |ref _ _ _ _ b o cap cap' rows h hb hl hc jy=>exact .inr (.inr (.inr ⟨b,o,cap,cap',rows,h,hb,hl,hc,jy,rfl⟩))
def aw.Qh{os:List Ob}{w:World}{Z:Nat->Prop}{blk:fR}{cs:List AV}{cv:Value}(h:aw os w Z blk (.agg cs) cv):
  ∃ bd,cv=.agg bd/\bd.size=cs.length/\∀ j x,cs[j]?=some x->aw os w Z blk x (bd.getD j Go.undef):=by
 cases h with
 |cC _ _ h=>cases h
 |agg _ bd h1 h2=>exact⟨bd,rfl,h1,h2⟩
def aw.Qi{os:List Ob}{w:World}{Z:Nat->Prop}{blk:fR}{cs:List AV}{cv:Value}(h:aw os w Z blk (.bu cs) cv):
  ∃ bd,cv=.tuple bd/\bd.size=cs.length/\∀ j x,cs[j]?=some x->aw os w Z blk x (bd.getD j Go.undef):=by
 cases h with
 |cC _ _ h=>cases h
 |bu _ bd h1 h2=>exact⟨bd,rfl,h1,h2⟩
def aw.Qt{os:List Ob}{w:World}{Z:Nat->Prop}{blk:fR}{f:FuncId}{cs:List AV}{cv:Value}(h:aw os w Z blk (.fn f cs) cv):
  ∃ bd,cv=.func (.func f) #[] bd/\bd.size=cs.length/\∀ j x,cs[j]?=some x->aw os w Z blk x (bd.getD j Go.undef):=by
 cases h with
 |cC _ _ h=>cases h
 |fn _ _ bd h1 h2=>exact⟨bd,rfl,h1,h2⟩
def aw.Qu{os:List Ob}{w:World}{Z:Nat->Prop}{blk:fR}{t:TypeId}{v:AV}{cv:Value}(h:aw os w Z blk (.hZ t v) cv):∃x,cv=.iface t x/\aw os w Z blk v x:=by
 cases h with
 |cC _ _ h=>cases h
 |hZ _ _ x h=>exact⟨x,rfl,h⟩
def hJ.inv{w:World}{Z:Nat->Prop}{sz:Nat}{rows:List (List AV)}{cv:Value}(h:hJ w Z (.tree sz rows) cv):
  (∃ a cap,rows=[]/\cv=.slice a 0 cap)\/∃ b o cap,∃ f:Nat->Nat->Value,cv=.slice (some ⟨b,o,none⟩) rows.length cap/\Z b/\(∀ row∈rows,row.length=sz)/\rows.length<=cap /\
   (∀ r c x,cellAt rows r c=some x->w.cell? ⟨b,o+(r*sz+c),none⟩=some (f r c))/\∀ r c x,cellAt rows r c=some x->hJ w Z x (f r c):=by
 cases h with
 |nil _ cap a=>exact .inl ⟨a,cap,rfl,rfl⟩
 |tree _ _ b o cap f h1 h2 h3 h4 h5=>exact .inr ⟨b,o,cap,f,rfl,h1,h2,h3,h4,h5⟩
def hJ.sub{w:World}{Z:Nat->Prop}{sz:Nat}{rows:List (List AV)}{b o cap cap':Nat}{f:Nat->Nat->Value}(hz:Z b)(hr:∀ row∈rows,row.length=sz)(hc:∀ r c x,cellAt rows r c=some x->w.cell? ⟨b,o+(r*sz+c),none⟩=some (f r c))(ht:∀ r c x,cellAt rows r c=some x->hJ w Z x (f r c))(lo n:Nat)(hn:n<=cap')(_hcap:rows.length<=cap)(gN:lo+n<=rows.length):
  hJ w Z (.tree sz ((rows.drop lo).take n)) (.slice (some ⟨b,o+lo*sz,none⟩) n cap'):=by
 have hlen:((rows.drop lo).take n).length=n:=N0;have ri:∀ r c x,cellAt ((rows.drop lo).take n) r c=some x->cellAt rows (lo+r) c=some x:=by
  intro r c x hx;simp only[cellAt,uY,nW]at hx;split at hx
  ·exact hx
  ·simp at hx
 have:=hJ.tree (w:=w) (Z:=Z) sz ((rows.drop lo).take n) b (o+lo*sz) cap' (λr c=>f (lo+r) c) hz (λrow h=>hr row (List.mem_of_mem_drop (List.mem_of_mem_take h))) AT
  (λr c x hx=>by
   have h1:=hc _ _ _ (ri r c x hx);rw[fh]at h1;have e:o+(lo*sz+r*sz+c)=o+lo*sz+(r*sz+c):=AT;rw[e]at h1;exact h1) (λr c x hx=>ht _ _ _ (ri r c x hx))
 rw[hlen]at this;exact this
def FB{o:Oper}{σ:St}{γ:Cx}{a:Act}{K:St->Prop}(h:bh σ γ)(ha:γ.tmps=a.tmps)(hd:∀ d,o.dst=some d->d<a.tmps.size){ob:Ob}{cur:Array Value}{t:TypeId}{cap:Nat}(bI:sR σ.aa γ.w γ.Z γ.blk 0 cap cur ob){v:AV}{cv:Value}(hv:aw (σ.aa++[ob]) (γ.w.alloc (.cells cur t)) γ.Z (cW γ.blk σ.aa.length (some (γ.w.heap.size,0,cap))) v cv)(hK:K (({ σ with aa:=σ.aa++[ob] }:St).put o.dst v)){r:Result Next}(hr:r=.ok (.value cv) (γ.w.alloc (.cells cur t))):zz o σ γ a K r :=
 Bj (σ1:={ σ with aa:=σ.aa++[ob] }) (γ1:={ γ with w:=γ.w.alloc (.cells cur t),blk:=cW γ.blk σ.aa.length (some (γ.w.heap.size,0,cap)) })
  (Fr.push (t:=t) (cur:=cur) ob rfl rfl rfl rfl) (h.push (t:=t) (cur:=cur) rfl bI) ha hd hv hK hr
def sS(ents:List (Value×Value)):(cN ents).toList=ents.mapIdx λi p=>(⟨p.1,p.2,i⟩:MapEntry):=by simp[cN]
def JJ(L:List (Value×Value))(p:Value×Value):(cN L).push ⟨p.1,p.2,L.length⟩=cN (L++[p]):=by
 apply Array.toList_inj.1;rw[Array.toList_push,sS,sS,List.mapIdx_append];simp
def FC(L:List (Value×Value))(i:Nat)(f:MapEntry->MapEntry)(p:Value×Value)(hf:∀ q,L[i]?=some q->f ⟨q.1,q.2,i⟩=⟨p.1,p.2,i⟩):(cN L).modify i f=cN (L.set i p):=by
 apply Array.ext_getElem?;intro j;rw[Array.getElem?_modify];simp only[cN,List.getElem?_toArray,List.getElem?_mapIdx,bP];by_cases h:i=j
 ·subst h;rw[if_pos rfl,if_pos rfl];cases hq:L[i]? with
  |none =>
   have:¬ i<L.length:=by
    have:=List.getElem?_eq_none_iff.1 hq;omega
   simp[this]
  |some q =>
   have:i<L.length:=(aR.1 hq).1;simp[this,hf q hq]
 ·rw[if_neg h,if_neg h]
def qx(ag:Nat)(f:Nat->Value)(L:List (List Int×AV)):(c6 ag f L).length=L.length:=by unfold c6;simp
def ue(ag:Nat)(f:Nat->Value)(L:List (List Int×AV))(j:Nat):(c6 ag f L)[j]?=(L[j]?).map λp=>(kV ag p.1,f j):=by unfold c6;simp
def zA{l:List Int}:∀ {L:List (List Int×AV)} {i j:Nat},fX l L i=some j->i<=j/\∃ v,L[j-i]?=some (l,v)
 |[],_,_,h=>by cases h
 |p::r,i,j,h=>by
  rw[fX]at h;split at h
  ·rename_i hp;cases h;exact⟨aX _,p.2,by rw[kW];simp[<- hp]⟩
  ·obtain⟨h1,v,h2⟩:=zA h;have e:j-i=(j-(i+1))+1:=AT;exact⟨AT,v,by rw[e,List.getElem?_cons_succ];exact h2⟩
def C4{σ:St}{γ:Cx}(h:bh σ γ){v:AV}{cv:Value}(hv:aw σ.aa γ.w γ.Z γ.blk v cv){id ag:Nat}{L:List (List Int×AV)}(hm:lE σ v=some (id,ag,L)):
  v=.c9 id/\σ.aa[id]?=some (.mp ag L)/\∃ b,∃ f:Nat->Value,γ.blk id=some (b,0,0)/\cv=.map (some b)/\γ.w.heap[b]?=some (.map (cN (c6 ag f L)) L.length)/\(∀ p∈L,p.1.length=j4 ag)/\∀ (j:Nat) p,L[j]?=some p->aw σ.aa γ.w γ.Z γ.blk p.2 (f j):=by
 unfold lE at hm;split at hm
 ·rename_i n9;split at hm
  ·rename_i iJ L' ho;simp only[cy.injEq,Prod.mk.injEq]at hm;obtain⟨rfl,rfl,rfl⟩:=hm;obtain⟨b,f,h1,h2,h3,h4⟩:=h.dx _ _ ho;cases hv with
   |cC _ _ h=>cases h
   |qm _ _ h' _=>rw[ho]at h';simp at h'
   |c9 _ b' _ _ h' hb =>
    rw[h1]at hb;simp only[cy.injEq,Prod.mk.injEq,and_true]at hb;subst hb;exact⟨rfl,ho,b,f,h1,rfl,h2,h3,h4⟩
  ·cases hm
 ·cases hm
def JK{os:List Ob}{w:World}{Z:Nat->Prop}{blk:fR}{v:AV}{cv:Value}(hv:aw os w Z blk v cv){ag:Nat}{l:List Int}(hk:keyOf v=some (ag,l))(hl:l.length=j4 ag):cv=kV ag l:=by
 unfold keyOf at hk;split at hk
 ·simp only[cy.injEq,Prod.mk.injEq]at hk;obtain⟨rfl,rfl⟩:=hk;rw[hv.cD];rfl
 ·rename_i cs;cases hi:o8 cs with
  |none=>simp[hi]at hk
  |some as =>
   simp only[hi,gF,cy.injEq,Prod.mk.injEq]at hk;obtain⟨rfl,rfl⟩:=hk;have:=JL hv hi;rw[this];unfold j4 at hl;unfold kV;by_cases h0:as.length=0
   ·rw[if_pos h0]at hl;omega
   ·rw[if_neg h0]
 ·cases hk
def adh{t:TypeId}{ag:Nat}(uf:jb P t ag){z:Value}{w:World}(hz:∀ kt et,P.underlying t=some (.map kt et)->(zeroValue et).run P w=.ok z w){b:Nat}{f:Nat->Value}{L:List (List Int×AV)}(hb:w.heap[b]?=some (.map (cN (c6 ag f L)) L.length))(hL:∀ p∈L,p.1.length=j4 ag){l:List Int}(hl:l.length=j4 ag):
  (Instr.lookup t (.map (some b)) (kV ag l) false).run P w=.ok (((fX l L 0).map f).getD z) w:=by
 obtain⟨kt,et,ht,hk⟩:=uf;obtain⟨h1,h2,h3⟩:=hk l hl;simp only[Instr.lookup,Sem.run_bind,run_underlying ht,MapKept.run_getObj_map hb,h1,h3 f L w hL,Result.andThen_ok,Sem.run_pure];cases h:fX l L 0 with
 |none=>simp[hz kt et ht]
 |some q=>simp
def adi{t:TypeId}{ag:Nat}(uf:jb P t ag){w:World}{b:Nat}{f:Nat->Value}{L:List (List Int×AV)}(hb:w.heap[b]?=some (.map (cN (c6 ag f L)) L.length))(hL:∀ p∈L,p.1.length=j4 ag){l:List Int}(hl:l.length=j4 ag)(v:AV)(cv:Value):
  ∃ f':Nat->Value,(Instr.mapUpdate t (.map (some b)) (kV ag l) cv).run P w=.ok () { w with heap:=w.heap.setIfInBounds b (.map (cN (c6 ag f' (eB l v L))) (eB l v L).length) } /\
   (∀ p∈eB l v L,p.1.length=j4 ag)/\∀ (j:Nat) p,(eB l v L)[j]?=some p->(p.2=v/\f' j=cv)\/(L[j]?=some p/\f' j=f j):=by
 obtain⟨kt,et,ht,hk⟩:=uf;obtain⟨h1,h2,h3⟩:=hk l hl;simp only[Instr.mapUpdate,Sem.run_bind,run_underlying ht,MapKept.run_getObj_map hb,h1,h3 f L w hL,Result.andThen_ok];unfold eB;cases h:fX l L 0 with
 |none =>
  refine⟨λj=>if j=L.length then cv else f j,?_,λp hp=>?_,λj p hp=>?_⟩
  ·have e:=JJ (c6 ag f L) (kV ag l,cv);rw[qx]at e;have e2:c6 ag f L++[(kV ag l,cv)]=c6 ag (λj=>if j=L.length then cv else f j) (L++[(l,v)]):=by
    unfold c6;rw[List.mapIdx_append];congr 1
    ·apply N'
     ·simp
     ·intro j h5 h6;have:j<L.length:=by simpa using h5
      simp[nw this]
    ·simp
   simp only[p7,MapKept.run_setObj_map _ hb,e,e2,bL,y7]
  ·rcases cT.1 hp with hp|hp
   ·exact hL p hp
   ·rw[c8.1 hp];exact hl
  ·rcases du j L.length with hj|hj
   ·rw[eL hj]at hp;exact .inr ⟨hp,by dsimp only;rw[if_neg AT]⟩
   ·rw[gZ hj]at hp;have:j=L.length:=by
     have:=(aR.1 hp).1;simp at this;omega
    subst this;simp only[kW,uW,cy.injEq]at hp;subst hp;exact .inl ⟨rfl,by dsimp only;rw[if_pos rfl]⟩
 |some q =>
  obtain⟨_,u,hu⟩:=zA h;rw[uZ]at hu;have hq:=(aR.1 hu).1;refine⟨λj=>if j=q then cv else f j,?_,λp hp=>?_,λj p hp=>?_⟩
  ·have C5:(((cN (c6 ag f L))[q]?).map (·.key)).getD (kV ag l)=kV ag l:=by
    simp[cN,ue,hu]
   have e:=FC (c6 ag f L) q (λe=>{ e with key:=kV ag l,val:=cv }) (kV ag l,cv) (λ_ _=>rfl);have e2:(c6 ag f L).set q (kV ag l,cv)=c6 ag (λj=>if j=q then cv else f j) (L.set q (l,v)):=by
    apply pZ;intro j;rw[bP,ue,ue,bP,qx];by_cases hj:q=j
    ·subst hj;simp[hq]
    ·rw[if_neg hj,if_neg hj,if_neg (Ne.symm hj)]
   simp only[gF,C5,h2,Result.andThen_ok,MapKept.run_setObj_map _ hb,Sem.run_bind];rw[e,e2,bw]
  ·rcases tP hp with hp|hp
   ·exact hL p hp
   ·rw[hp];exact hl
  ·simp only[bP]at hp;by_cases hj:q=j
   ·subst hj;rw[if_pos rfl,if_pos hq]at hp;cases hp;exact .inl ⟨rfl,by dsimp only;rw[if_pos rfl]⟩
   ·rw[if_neg hj]at hp;exact .inr ⟨hp,by dsimp only;rw[if_neg (Ne.symm hj)]⟩
def bh.wrR{σ:St}{γ:Cx}(h:bh σ γ){id:Nat}{ob ob':Ob}(ho:σ.aa[id]?=some ob)(hg:ob≠.gone)(jP:ob.dI ob'){b o cap:Nat}(hb:γ.blk id=some (b,o,cap)){w':World}(ml:∀ k,k≠b->w'.heap[k]?=γ.w.heap[k]?):∀ v cv,aw σ.aa γ.w γ.Z γ.blk v cv->aw (σ.aa.set id ob') w' γ.Z γ.blk v cv:=by
 have b9:id<σ.aa.length:=(aR.1 ho).1;have j6:Live σ.aa id:=⟨ob,ho,hg⟩;exact λv cv hv =>
  hv.mono (λz hz=>⟨hz,ml z (λe=>h.nz b ⟨id,o,cap,j6,hb⟩ (e▸hz))⟩) (λi x hx=>by
   rw[bP];by_cases mQ:id=i
   ·subst mQ;rw[ho]at hx;simp at hx;subst hx;right;refine⟨rfl,ob',by simp[b9],jP⟩
   ·rw[if_neg mQ];by_cases cG:x=.gone
    ·subst cG;exact .inl hx
    ·exact .inr ⟨rfl,x,hx,Ob.jh cG⟩)
def adk{t:TypeId}{ag:Nat}(uf:jb P t ag){z:Value}{w:World}(hz:∀ kt et,P.underlying t=some (.map kt et)->(zeroValue et).run P w=.ok z w){b:Nat}{f:Nat->Value}{L:List (List Int×AV)}(hb:w.heap[b]?=some (.map (cN (c6 ag f L)) L.length))(hL:∀ p∈L,p.1.length=j4 ag){l:List Int}(hl:l.length=j4 ag):
  ∃ f':Nat->Value,(Instr.mapEntry t (.map (some b)) (kV ag l)).run P w=.ok (.tuple #[((fX l L 0).map f).getD z,.int .i64 (A3 l L:Nat)]) { w with heap:=w.heap.setIfInBounds b (.map (cN (c6 ag f' (eB l ((kY l L).getD (.lit z)) L))) (eB l ((kY l L).getD (.lit z)) L).length) } /\
   (∀ p∈eB l ((kY l L).getD (.lit z)) L,p.1.length=j4 ag)/\∀ (j:Nat) p,(eB l ((kY l L).getD (.lit z)) L)[j]?=some p->(p.2=(kY l L).getD (.lit z)/\f' j=((fX l L 0).map f).getD z)\/(L[j]?=some p/\f' j=f j):=by
 obtain⟨kt,et,ht,hk⟩:=uf;obtain⟨h1,h2,h3⟩:=hk l hl;generalize hv:(kY l L).getD (.lit z)=v;simp only[Instr.mapEntry,Sem.run_bind,run_underlying ht,MapKept.run_getObj_map hb,h1,h3 f L w hL,Result.andThen_ok];unfold eB A3;cases h:fX l L 0 with
 |none =>
  refine⟨λj=>if j=L.length then z else f j,?_,λp hp=>?_,λj p hp=>?_⟩
  ·have e:=JJ (c6 ag f L) (kV ag l,z);rw[qx]at e;have e2:c6 ag f L++[(kV ag l,z)]=c6 ag (λj=>if j=L.length then z else f j) (L++[(l,v)]):=by
    unfold c6;rw[List.mapIdx_append];congr 1
    ·apply N'
     ·simp
     ·intro j h5 h6;have:j<L.length:=by simpa using h5
      simp[nw this]
    ·simp
   simp only[p7,hz kt et ht,Result.andThen_ok,MapKept.run_setObj_map _ hb,Sem.run_bind,e,e2,bL,y7,Sem.run_pure,Option.getD_none,goInt]
  ·rcases cT.1 hp with hp|hp
   ·exact hL p hp
   ·rw[c8.1 hp];exact hl
  ·rcases du j L.length with hj|hj
   ·rw[eL hj]at hp;exact .inr ⟨hp,by dsimp only;rw[if_neg AT]⟩
   ·rw[gZ hj]at hp;have:j=L.length:=by
     have:=(aR.1 hp).1;simp at this;omega
    subst this;simp only[kW,uW,cy.injEq]at hp;subst hp;exact .inl ⟨rfl,by dsimp only;rw[if_pos rfl];rfl⟩
 |some q =>
  obtain⟨_,u,hu⟩:=zA h;rw[uZ]at hu;have hq:=(aR.1 hu).1;refine⟨f,?_,λp hp=>?_,λj p hp=>?_⟩
  ·have C5:(((cN (c6 ag f L))[q]?).map (·.key)).getD (kV ag l)=kV ag l:=by
    simp[cN,ue,hu]
   have adl:(((cN (c6 ag f L))[q]?).map (λe=>(e.born:Int))).getD 0=(q:Int):=by
    simp[cN,ue,hu]
   have e:=FC (c6 ag f L) q (λe=>{ e with key:=kV ag l }) (kV ag l,f q) (λx hx=>by
    rw[ue,hu]at hx;cases hx;rfl)
   have e2:(c6 ag f L).set q (kV ag l,f q)=c6 ag f (L.set q (l,v)):=by
    apply pZ;intro j;rw[bP,ue,ue,bP,qx];by_cases hj:q=j
    ·subst hj;simp[hq]
    ·rw[if_neg hj,if_neg hj]
   simp only[gF,C5,h2,Result.andThen_ok,MapKept.run_setObj_map _ hb,Sem.run_bind,Sem.run_pure,adl,mI,goInt];rw[e,e2,bw]
  ·rcases tP hp with hp|hp
   ·exact hL p hp
   ·rw[hp];exact hl
  ·simp only[bP]at hp;by_cases hj:q=j
   ·subst hj;rw[if_pos rfl,if_pos hq]at hp;cases hp;exact .inl ⟨rfl,rfl⟩
   ·rw[if_neg hj]at hp;exact .inr ⟨hp,rfl⟩
def adm(ents:List (Value×Value)){n:Nat}(hn:n<ents.length):(cN ents).findIdx? (λe=>(e.born:Int)==(n:Int))=some n:=by
 unfold cN;rw[List.findIdx?_toArray,List.findIdx?_eq_some_iff_getElem];refine⟨by simpa using hn,IM,λj hj=>?_⟩;simp only[List.getElem_mapIdx];simp;omega
def adn{t:TypeId}{ag:Nat}{w:World}{b:Nat}{f:Nat->Value}{L:List (List Int×AV)}(hb:w.heap[b]?=some (.map (cN (c6 ag f L)) L.length)){n:Nat}(hn:n<L.length)(v:AV)(cv:Value):
  (Instr.entryStore t (.map (some b)) (.int .i64 (n:Nat)) cv).run P w=.ok () { w with heap:=w.heap.setIfInBounds b (.map (cN (c6 ag (λj=>if j=n then cv else f j) (qf n v L))) (qf n v L).length) }:=by
 have hf:=adm (c6 ag f L) (n:=n) (by rw[qx];exact hn);have e:=FC (c6 ag f L) n (λe=>{ e with val:=cv }) (kV ag (L.getD n ([],.undef)).1,cv) (λx hx=>by
  rw[ue,bq hn]at hx;cases hx;rw[ax,bq hn];rfl)
 have e2:(c6 ag f L).set n (kV ag (L.getD n ([],.undef)).1,cv)=c6 ag (λj=>if j=n then cv else f j) (qf n v L):=by
  unfold qf;apply pZ;intro j;rw[bP,ue,ue,bP,qx];by_cases hj:n=j
  ·subst hj;simp[hn]
  ·rw[if_neg hj,if_neg hj,if_neg (Ne.symm hj)]
 simp only[Instr.entryStore,Sem.run_bind,MapKept.run_getObj_map hb,asInt,asIntOf,Sem.run_pure,Result.andThen_ok,hf,MapKept.run_setObj_map _ hb];rw[e,e2];simp[qf]
def JM{P:Program}{t:TypeId}(h:(ty P t).kind=8):∃kt,P.underlying t=some (.map kt (ty P t).elem):=by
 unfold ty at h ⊢;cases hi:P.info? t<;>cases hd:P.underlying t<;>simp[hi,hd]at h ⊢;rename_i i d;cases d<;>simp at h ⊢
def acV{o:Oper}{σ:St}{K:St->Prop}(hW:b8 P o σ K){γ:Cx}(h:bh σ γ){a:Act}(ha:γ.tmps=a.tmps)(hd:∀ d,o.dst=some d->d<a.tmps.size):
  zz o σ γ a K ((execOp a.eval o).run P γ.w):=by
 obtain⟨dst,op,type,pos,after,guard⟩:=o;unfold b8 at hW;have E:=λx=>sN h ha x;cases op
 case move x=>exact da h ha hd (E x) hW (by simp[execOp])
 case assign x=>exact da h ha hd (E x) hW (by simp[execOp])
 case pick c x y =>
  simp only at hW;have hc:=E c;split at hW
  ·rename_i t he;rw[he]at hc;have aQ:=hc.cD;refine da h ha hd (v:=fH t (ev σ x) (ev σ y)) (cv:=if t then a.eval x else a.eval y) ?_ hW (by simp[execOp,aQ,asBool]);unfold fH;split
   ·rename_i x' y' h1 h2;have hx:=E x;have hy:=E y;rw[h1]at hx;rw[h2]at hy;rw[hx.cD,hy.cD];cases t<;>exact .lit _
   ·cases t
    ·exact E y
    ·exact E x
  ·exact hW.elim
 case alloc e =>
  simp only at hW;obtain⟨bf,hW⟩:=hW;split at hW
  ·rename_i z hz;obtain⟨v,hv,hvc⟩:=Qz bf hz γ.w;obtain⟨l1,l2⟩:=JN (os:=σ.aa) (w:=γ.w) (Z:=γ.Z) (blk:=γ.blk) z;refine FB (ob:=.var (z.map .lit)) (v:=.ptr σ.aa.length 0 0) (cv:=.pointer (some ⟨γ.w.heap.size,0,none⟩)) (cap:=0) (cur:=z.toArray) (t:=e) h ha hd ⟨rfl,IM,l2⟩ ?_ hW ?_
   ·exact .nF _ 0 _ 0 _ (EZ ..) (by simp[cW])
   ·simp[execOp,Instr.alloc,hv,newVar,newRow,hvc]
  ·exact hW.elim
 case box e x =>
  simp only at hW;obtain⟨hs,hK⟩:=hW;obtain⟨c1,c2,c3⟩:=JO (E x) hs;refine FB (ob:=.var (cellsOf (ev σ x))) (cv:=.pointer (some ⟨γ.w.heap.size,0,none⟩)) (cap:=0) (cur:=(a.eval x).cells) (t:=e) h ha hd ⟨rfl,c1,c2⟩ ?_ hK ?_
  ·exact .nF _ 0 _ 0 _ (EZ ..) (by simp[cW])
  ·simp[execOp,Instr.box,newVar,newRow]
 case build t parts =>
  simp only at hW;split at hW
  ·rename_i z hk hz;split at hW
   ·rename_i cs hf;obtain⟨⟨hs,hp⟩,hK⟩:=hW;obtain⟨cur,h1,h2⟩:=adp h ha hk hz hf hs hp;exact da h ha hd h2 hK (by simp only[execOp,Sem.run_bind,h1,Result.andThen_ok,Sem.run_pure])
   ·exact hW.elim
  ·rename_i z hk hz;split at hW
   ·rename_i cs hf;obtain⟨⟨hs,hp⟩,hK⟩:=hW;obtain⟨cur,h1,h2⟩:=adq h ha hk hz hf hs hp;exact da h ha hd h2 hK (by simp only[execOp,Sem.run_bind,h1,Result.andThen_ok,Sem.run_pure])
   ·exact hW.elim
  ·exact hW.elim
 case buildSlice t len parts =>
  simp only at hW;split at hW
  ·rename_i z hk hz;split at hW
   ·rename_i cs hf;obtain⟨⟨dP,h0,mR,adr,hs⟩,hK⟩:=hW;have ht:=ug hk;obtain⟨i,d,hi,FD,uh,_,hzero⟩:=ui dP;obtain⟨zv,hzr,jf⟩:=Qz dP hz γ.w;have FE:0<z.length:=by rw[mR];exact h0
    obtain⟨hl,hr⟩:=JP h ha parts;obtain⟨cur,f1,f2⟩:=FF (σ:=σ) (γ:=γ) _ _ _ _ cs hl hr (λp hp=>by
     simp only[List.mem_map]at hp;obtain⟨q,hq,rfl⟩:=hp;rw[List.all_eq_true]at hs;exact hs q hq) (JQ z len (len*(ty P (ty P t).elem).size) (by rw[mR]) FE) hf
    have amo:cs.length=len*(ty P (ty P t).elem).size:=by
     have:=JQ (os:=σ.aa) (w:=γ.w) (Z:=γ.Z) (blk:=γ.blk) z len (len*(ty P (ty P t).elem).size) (by rw[mR]) FE;have h1:∀ (parts:List (Nat×AV)) (cs rp:List AV) (place:Nat->Option (Nat×Nat)),l9 place cs parts=some rp->rp.length=cs.length:=by
      intro parts
      induction parts with
      |nil=>intro cs rp place h;simp[l9]at h;rw[h]
      |cons p parts ih =>
       intro cs rp place h;obtain⟨i,v⟩:=p;simp only[l9]at h;split at h
       ·simp at h
       ·split at h
        ·rw[ih _ _ _ h,JR]
        ·simp at h
     rw[h1 _ _ _ _ hf,<- this.1];simp
    have hmul:len*(ty P (ty P t).elem).size<=16777216:=adr;have hlen:len<=maxLen:=by
     have:len*1<=len*(ty P (ty P t).elem).size:=Nat.mul_le_mul_left _ h0;unfold maxLen;omega
    have eF:(Instr.buildSlice t len (parts.map λ(i,x)=>(i,a.eval x))).run P γ.w=.ok (.slice (some ⟨γ.w.heap.size,0,none⟩) len len) (γ.w.alloc (.cells cur (ty P t).elem)):=by
     have dJ:¬ (len*(ty P (ty P t).elem).size > 2^24):=AT;by_cases hl0:len*(ty P (ty P t).elem).size=0
     ·rw[hl0]at f1;have e0:((IL 0).map λx=>(#[]:Array Value)[x%(#[]:Array Value).size]!)=((IL 0).map (z.toArray[· % z.toArray.size]!)):=IM;simp only[Instr.buildSlice,Sem.run_bind,run_underlying ht,Result.andThen_ok,run_sizeOf dP,if_false,hl0,if_true,Sem.run_pure,Nat.not_lt_zero,gt_iff_lt];rw[e0,f1];simp[newRow]
     simp only[Instr.buildSlice,Sem.run_bind,run_underlying ht,Result.andThen_ok,run_sizeOf dP,dJ,if_false,hl0,hzr,Sem.run_pure,jf];rw[show((IL (len*(ty P (ty P t).elem).size)).map λx=>z.toArray[x%z.toArray.size]!)=((IL (len*(ty P (ty P t).elem).size)).map (z.toArray[· % z.toArray.size]!)) from rfl,f1];simp[newRow]
    refine FB (ob:=.arr (ty P (ty P t).elem).size (l' (ty P (ty P t).elem).size len cs)) (cv:=.slice (some ⟨γ.w.heap.size,0,none⟩) len len) (cap:=len) (cur:=cur) (t:=(ty P t).elem) h ha hd ?_ ?_ hK ?_
    ·refine⟨h0,QA _ _ _ AT,by rw[f2.1];omega,by rw[JS];omega,hlen,?_⟩;intro r c v hv;rw[fc];exact f2.2 _ _ (QB _ _ _ _ _ _ hv)
    ·have:=aw.ref (os:=σ.aa++[.arr (ty P (ty P t).elem).size (l' (ty P (ty P t).elem).size len cs)]) (w:=γ.w.alloc (.cells cur (ty P t).elem)) (Z:=γ.Z) (blk:=cW γ.blk σ.aa.length (some (γ.w.heap.size,0,len)))
      σ.aa.length (ty P (ty P t).elem).size 0 len γ.w.heap.size 0 len len _ (by simp;rfl) (by simp[cW]) (by rw[JS];omega) AT (aX _)
     simpa using this
    ·simp only[execOp,Sem.run_bind,eF,Result.andThen_ok,Sem.run_pure]
   ·exact hW.elim
  ·exact hW.elim
 case load t x =>
  simp only at hW;obtain⟨hk,hW⟩:=hW;have hx:=E x;split at hW
  ·rename_i id r c he;rw[he]at hx;split at hW
   ·rename_i row bE;obtain⟨v,pj,h1,h2,h3⟩:=JA h hk hx bE hW;exact da h ha hd h2 h3 (by simp only[execOp,Sem.run_bind,h1,Result.andThen_ok,Sem.run_pure])
   ·exact hW.elim
  ·rename_i cells he;rw[he]at hx;obtain⟨v,pj,h1,h2,h3⟩:=adt h hk hx hW;exact da h ha hd h2 h3 (by simp only[execOp,Sem.run_bind,h1,Result.andThen_ok,Sem.run_pure])
  ·exact hW.elim
 case store t x y =>
  simp only at hW;obtain⟨hk,hW⟩:=hW;have hx:=E x;split at hW
  ·rename_i id r c he;rw[he]at hx;split at hW
   ·rename_i row bE;obtain⟨hc,hK⟩:=hW;obtain⟨w',h1,h2,h3⟩:=adu h hk hx bE (E y) hc;exact JT h3 h2 ha hd hK (by simp only[execOp,Sem.run_bind,h1,Result.andThen_ok,Sem.run_pure])
   ·exact hW.elim
  ·exact hW.elim
 case nilCheck x =>
  simp only at hW;have hx:=E x;split at hW
  ·rename_i id r c he;rw[he]at hx;cases ho:σ.aa[id]? with
   |none=>simp[ho]at hW
   |some ob =>
    have bN:ob≠.gone/\K (σ.put dst (.ptr id r c)):=by cases ob<;>simp[ho]at hW ⊢<;>exact hW
    have aQ :∃ad,a.eval x=.pointer (some ad):=by
     rcases hx.JG with h|⟨b,cap,cells,_,_,_,h⟩|⟨_,b,o,cap,rows,_,_,h⟩
     ·rw[ho]at h;simp at h;exact absurd h bN.1
     ·exact⟨_,h⟩
     ·exact⟨_,h⟩
    obtain⟨ad,aQ⟩:=aQ;exact da h ha hd hx bN.2 (by simp[execOp,aQ])
  ·rename_i cells he;rw[he]at hx;have aQ :∃ad,a.eval x=.pointer (some ad):=by
    obtain⟨b,o,f,h,_⟩:=hx.JH;exact⟨_,h⟩
   obtain⟨ad,aQ⟩:=aQ;exact da h ha hd hx hW (by simp[execOp,aQ])
  ·exact hW.elim
 case binOp op t x y yt =>
  simp only at hW;have hx:=E x;have hy:=E y;split at hW
  ·rename_i k p k' q he hf;rw[he]at hx;rw[hf]at hy;obtain⟨rfl,hW⟩:=hW;obtain⟨v,h1,h2⟩:=adv (P:=P) hW t γ.w;refine da h ha hd (.lit v) h2 ?_;simp[execOp,hx.cD,hy.cD,eqGuard,h1]
  ·rename_i p q he hf;rw[he]at hx;rw[hf]at hy;obtain⟨hk,hW⟩:=hW;have ht:=adw hk;split at hW
   ·refine da h ha hd (.lit _) hW ?_;simp[execOp,hx.cD,hy.cD,eqGuard,run_eql_bool γ.w t p q ht]
   ·refine da h ha hd (.lit _) hW ?_;simp[execOp,hx.cD,hy.cD,eqGuard,run_neq_bool γ.w t p q ht,bne]
   ·exact hW.elim
  ·rename_i sz rows he hf;rw[he]at hx;rw[hf]at hy;obtain⟨⟨hk,hr⟩,hW⟩:=hW;have ht:=ug hk;rcases hx.zr.inv with⟨ad,cap,rfl,aQ⟩|⟨b,o,cap,f,aQ,_⟩
   ·exact absurd hr IM
   split at hW
   ·refine da h ha hd (.lit _) hW ?_;simp[execOp,aQ,hy.cD,eqGuard,adf γ.w t _ _ _ ht]
   ·refine da h ha hd (.lit _) hW ?_;simp[execOp,aQ,hy.cD,eqGuard,adg γ.w t _ _ _ ht]
   ·exact hW.elim
  ·rename_i ad n c he hf;rw[he]at hx;rw[hf]at hy;obtain⟨hk,hW⟩:=hW;have ht:=ug hk;split at hW
   ·refine da h ha hd (.lit _) hW ?_;simp[execOp,hx.cD,hy.cD,eqGuard,adb γ.w t _ _ _ _ ht]
   ·refine da h ha hd (.lit _) hW ?_;simp[execOp,hx.cD,hy.cD,eqGuard,ade γ.w t _ _ _ _ ht]
   ·exact hW.elim
  ·rename_i cs ds he hf;rw[he]at hx;rw[hf]at hy;split at hW
   ·rename_i as bs C6 JU;obtain⟨⟨hq,hlen,Bk⟩,hW⟩:=hW;have qy:=JL hx C6;have zB:=JL hy JU;have heq:=hq γ.w as bs rfl hlen;split at hW
    ·refine da h ha hd (.lit _) hW ?_;simp only[execOp,qy,zB,Sem.run_bind,run_eqGuard_agg γ.w _ _ _ _ _ _ Bk,run_eql_struct,heq,Result.andThen_ok,Sem.run_pure]
    ·refine da h ha hd (.lit _) hW ?_;simp only[execOp,qy,zB,Sem.run_bind,run_eqGuard_agg γ.w _ _ _ _ _ _ Bk,run_neq_struct,heq,Result.andThen_ok,Sem.run_pure]
    ·exact hW.elim
   ·exact hW.elim
  ·exact hW.elim
 case unOp op t x =>
  simp only at hW;have hx:=E x;split at hW
  ·rename_i b he;rw[he]at hx;exact da h ha hd (.lit _) hW (by simp[execOp,hx.cD,Op.unary])
  ·rename_i k n he;rw[he]at hx;unfold tY at hW;split at hW
   ·exact da h ha hd (.lit _) hW (by simp[execOp,hx.cD,Op.unary,Op.intArith])
   ·exact da h ha hd (.lit _) hW.2 (by simp[execOp,hx.cD,Op.unary,Op.intArith,wG hW.1])
  ·exact hW.elim
 case makeMap t r =>
  simp only at hW;obtain⟨⟨rfl,hk⟩,hK⟩:=hW;refine Bj (σ1:={ σ with aa:=σ.aa++[.mp (zg P t) []] }) (γ1:={ γ with w:=γ.w.alloc (.map #[] 0),blk:=cW γ.blk σ.aa.length (some (γ.w.heap.size,0,0)) })
   (Fr.C7 (cap:=0) _ rfl rfl rfl rfl) (h.C7 (cap:=0) rfl λgk w' jN hR hb hx=>⟨_,λ_=>Go.undef,hb,hx,IM,IM⟩) ha hd
   (v:=.c9 σ.aa.length) (cv:=.map (some γ.w.heap.size)) (.c9 _ _ _ _ (EZ ..) (by simp[cW])) hK ?_
  simp[execOp,Instr.makeMap,newObj,Sem.run]
 case lookup t x i ok =>
  simp only at hW;split at hW
  ·rename_i ag l id iJ L z iA nJ nK;obtain⟨⟨uf,rfl,hl,FG,rfl⟩,hK⟩:=hW;obtain⟨kt,ht⟩:=JM FG;obtain⟨_,ho,b,f,hb,aQ,iL,hL,lK⟩:=C4 h (E x) nJ;have C8:=JK (E i) iA hl;have hz:∀ C9 zC,P.underlying t=some (.map C9 zC)->(zeroValue zC).run P γ.w=.ok z γ.w:=by
    intro C9 zC h';rw[ht]at h';cases h';unfold zeroV at nK;split at nK
    ·rename_i ii hi;simp[zeroValue,typeInfo,hi,nK]
    ·cases nK
   have eF:=adh (P:=P) uf hz iL hL hl;refine da (cv:=((fX l L 0).map f).getD z) h ha hd ?_ hK (by simp only[execOp,aQ,C8,Sem.run_bind,eF,Result.andThen_ok,Sem.run_pure]);unfold kY;cases hf:fX l L 0 with
   |none=>exact .lit z
   |some q =>
    obtain⟨_,u,hu⟩:=zA hf;rw[uZ]at hu;simp only[r8,hu,gF,mI];exact lK q _ hu
  ·exact hW.elim
 case mapUpdate t m k x =>
  simp only at hW;split at hW
  ·rename_i ag l id iJ L iA nJ;obtain⟨⟨uf,rfl,hl⟩,hK⟩:=hW;obtain⟨_,ho,b,f,hb,aQ,iL,hL,lK⟩:=C4 h (E m) nJ;have C8:=JK (E k) iA hl;obtain⟨f',eF,JV,ij⟩:=adi (P:=P) uf iL hL hl (ev σ x) (a.eval x);have mn:b<γ.w.heap.size:=(nu.1 iL).1;refine JT (σ1:={ σ with aa:=σ.aa.set id (.mp iJ (eB l (ev σ x) L)) }) (γ1:={ γ with w:={ γ.w with heap:=γ.w.heap.setIfInBounds b (.map (cN (c6 iJ f' (eB l (ev σ x) L))) (eB l (ev σ x) L).length) } })
    (Fr.write (.mp iJ (eB l (ev σ x) L)) ho IM rfl hb (λk hk=>by simp[tQ (Ne.symm hk)]) IM rfl rfl rfl)
    (h.FH (ob':=.mp iJ (eB l (ev σ x) L)) ho IM rfl hb (λk hk=>by simp[tQ (Ne.symm hk)]) IM λgk hR=>⟨b,f',hb,by simp[mn],JV,λj p hp=>?_⟩) ha hd hK ?_
   ·rcases ij j p hp with⟨h1,h2⟩|⟨h1,h2⟩
    ·rw[h1,h2];exact hR _ _ (E x)
    ·rw[h2];exact hR _ _ (lK j p h1)
   ·simp only[execOp,aQ,C8,Sem.run_bind,eF,Result.andThen_ok,Sem.run_pure]
  ·exact hW.elim
 case mapEntry t m k =>
  simp only at hW;split at hW
  ·rename_i ag l id iJ L z iA nJ nK;obtain⟨⟨uf,rfl,hl,FG⟩,hK⟩:=hW;obtain⟨kt,ht⟩:=JM FG;obtain⟨_,ho,b,f,hb,aQ,iL,hL,lK⟩:=C4 h (E m) nJ;have C8:=JK (E k) iA hl;have hz:∀ C9 zC,P.underlying t=some (.map C9 zC)->(zeroValue zC).run P γ.w=.ok z γ.w:=by
    intro C9 zC h';rw[ht]at h';cases h';unfold zeroV at nK;split at nK
    ·rename_i ii hi;simp[zeroValue,typeInfo,hi,nK]
    ·cases nK
   obtain⟨f',eF,JV,ij⟩:=adk (P:=P) uf hz iL hL hl;have mn:b<γ.w.heap.size:=(nu.1 iL).1;have hold:aw σ.aa γ.w γ.Z γ.blk ((kY l L).getD (.lit z)) (((fX l L 0).map f).getD z):=by
    unfold kY;cases hf:fX l L 0 with
    |none=>exact .lit z
    |some q =>
     obtain⟨_,u,hu⟩:=zA hf;rw[uZ]at hu;simp only[r8,hu,gF,mI];exact lK q _ hu
   generalize (kY l L).getD (.lit z)=v at *;generalize ((fX l L 0).map f).getD z=cv at *;have hR0:∀ x y,aw σ.aa γ.w γ.Z γ.blk x y->aw (σ.aa.set id (.mp iJ (eB l v L))) { γ.w with heap:=γ.w.heap.setIfInBounds b (.map (cN (c6 iJ f' (eB l v L))) (eB l v L).length) } γ.Z γ.blk x y :=
    h.wrR (ob':=.mp iJ (eB l v L)) ho IM rfl hb (λk hk=>by simp[tQ (Ne.symm hk)])
   refine Bj (σ1:={ σ with aa:=σ.aa.set id (.mp iJ (eB l v L)) }) (γ1:={ γ with w:={ γ.w with heap:=γ.w.heap.setIfInBounds b (.map (cN (c6 iJ f' (eB l v L))) (eB l v L).length) } })
    (Fr.write (.mp iJ (eB l v L)) ho IM rfl hb (λk hk=>by simp[tQ (Ne.symm hk)]) IM rfl rfl rfl)
    (h.FH (ob':=.mp iJ (eB l v L)) ho IM rfl hb (λk hk=>by simp[tQ (Ne.symm hk)]) IM λgk hR=>⟨b,f',hb,by simp[mn],JV,λj p hp=>?_⟩) ha hd
    (v:=.bu [v,Oi (A3 l L:Nat)]) (cv:=.tuple #[cv,.int .i64 (A3 l L:Nat)]) (.bu _ _ rfl λj x hx=>?_) hK ?_
   ·rcases ij j p hp with⟨h1,h2⟩|⟨h1,h2⟩
    ·rw[h1,h2];exact hR _ _ hold
    ·rw[h2];exact hR _ _ (lK j p h1)
   ·match j,hx with
    |0,hx=>cases hx;exact hR0 _ _ hold
    |1,hx=>cases hx;exact .lit _
   ·simp only[execOp,aQ,C8,Sem.run_bind,eF,Result.andThen_ok,Sem.run_pure]
  ·exact hW.elim
 case entryStore t m s x =>
  simp only at hW;split at hW
  ·rename_i n id ag L hs nJ;obtain⟨⟨kj,k9⟩,hK⟩:=hW;obtain⟨_,ho,b,f,hb,aQ,iL,hL,lK⟩:=C4 h (E m) nJ;have QC:=E s;rw[hs]at QC;have iU:=QC.cD;have hn:n=((n.toNat:Nat):Int):=AT;have eF:=adn (P:=P) (t:=t) iL (n:=n.toNat) AT (ev σ x) (a.eval x);rw[<- hn]at eF;have mn:b<γ.w.heap.size:=(nu.1 iL).1;refine JT (σ1:={ σ with aa:=σ.aa.set id (.mp ag (qf n.toNat (ev σ x) L)) }) (γ1:={ γ with w:={ γ.w with heap:=γ.w.heap.setIfInBounds b (.map (cN (c6 ag (λj=>if j=n.toNat then a.eval x else f j) (qf n.toNat (ev σ x) L))) (qf n.toNat (ev σ x) L).length) } })
    (Fr.write (.mp ag (qf n.toNat (ev σ x) L)) ho IM rfl hb (λk hk=>by simp[tQ (Ne.symm hk)]) IM rfl rfl rfl)
    (h.FH (ob':=.mp ag (qf n.toNat (ev σ x) L)) ho IM rfl hb (λk hk=>by simp[tQ (Ne.symm hk)]) IM λgk hR=>⟨b,λj=>if j=n.toNat then a.eval x else f j,hb,by simp only[Array.getElem?_setIfInBounds_self_of_lt mn],λp hp=>?_,λj p hp=>?_⟩) ha hd hK ?_
   ·unfold qf at hp;rcases tP hp with hp|hp
    ·exact hL p hp
    ·have nI:n.toNat<L.length:=AT;rw[hp,ax,bq nI];exact hL L[n.toNat] (List.getElem_mem nI)
   ·unfold qf at hp;simp only[bP]at hp;by_cases hj:n.toNat=j
    ·subst hj;rw[if_pos rfl,if_pos AT]at hp;cases hp;dsimp only;rw[if_pos rfl];exact hR _ _ (E x)
    ·rw[if_neg hj]at hp;dsimp only;rw[if_neg (Ne.symm hj)];exact hR _ _ (lK j p hp)
   ·simp only[execOp,aQ,iU,Sem.run_bind,eF,Result.andThen_ok,Sem.run_pure]
  ·exact hW.elim
 case index t x i =>
  simp only at hW;split at hW
  ·rename_i s k n hs hi;obtain⟨⟨hu,kj,k9⟩,hK⟩:=hW;have hx:=E x;rw[hs]at hx;have hj:=E i;rw[hi]at hj;have aS:n.toNat<s.size:=AT;have hg:s[n.toNat]?=some s[n.toNat]:=by simp[aS]
   refine da h ha hd (.lit _) hK ?_;simp only[execOp,hx.cD,hj.cD,Instr.index,asIntOf,Sem.run_bind,Sem.run_pure,Result.andThen_ok,run_underlying hu,if_pos kj,hg,I8]
  ·exact hW.elim
 case makeInterface t x =>
  simp only at hW;obtain⟨h1,hK⟩:=hW;refine da h ha hd (v:=.hZ t (ev σ x)) (cv:=.iface t (a.eval x)) (.hZ _ _ _ (E x)) hK ?_;unfold zh at h1;cases hu:P.underlying t with
  |none=>simp[hu]at h1
  |some d=>cases d<;>simp[hu]at h1<;>simp[execOp,Instr.makeInterface,run_underlying hu]
 case typeAssert x xt asserted ok =>
  simp only at hW;have hx:=E x;split at hW
  ·rename_i t v he;rw[he]at hx;obtain⟨cx,hc,hv⟩:=hx.Qu;obtain⟨⟨h1,rfl,rfl⟩,hK⟩:=hW;refine da h ha hd hv hK ?_;unfold zh at h1;cases hu:P.underlying t with
   |none=>simp[hu]at h1
   |some d=>cases d<;>simp[hu]at h1<;>simp[execOp,hc,Instr.typeAssert,run_underlying hu]
  ·exact hW.elim
 case makeFunc fn first captured =>
  simp only at hW;split at hW
  ·rename_i f;obtain⟨hf,hK⟩:=hW;have hfe:first = #[]:=Array.eq_empty_of_size_eq_zero hf
   subst hfe;refine da h ha hd (v:=.fn f (captured.toList.map (ev σ))) (cv:=.func (.func f) #[] (captured.map a.eval)) ?_ hK (by simp[execOp,Instr.makeFunc]);refine .fn _ _ _ IM (λj x hj=>?_);simp only[bV]at hj;cases hc:captured.toList[j]? with
   |none=>simp[hc]at hj
   |some y =>
    simp[hc]at hj;subst hj;simp only[CE]at hc;simp[eA,hc];exact E y
  ·exact hW.elim
 case makeSlice t l c =>
  simp only at hW;have hl:=E l;have hc:=E c;split at hW
  ·rename_i z k n k' n' hk hz he hf;rw[he]at hl;rw[hf]at hc;obtain⟨⟨dP,h0,mR,rfl,kj,k9,C',_⟩,hK,_⟩:=hW;have ht:=ug hk;obtain⟨i,d,hi,FD,uh,Da,hzero⟩:=ui dP;obtain⟨zv,zD,jf⟩:∃zv,i.zero=some zv/\zv.cells=z.toArray:=by
    rw[hzero]at hz;cases hv:i.zero with
    |none=>simp[hv]at hz
    |some v=>simp[hv]at hz;exact⟨v,rfl,by rw[<- hz]⟩
   have hb:(i.bytes:Int)*n'<=281474976710656:=by
    have h1:(i.bytes:Int)<=128:=by rw[<- Da];exact_mod_cast C'
    have h2:(i.bytes:Int)*n'<=128*n':=Int.mul_le_mul_of_nonneg_right h1 kj;omega
   have hr:=run_make (P:=P) γ.w t _ i zv ht hi zD k k' n' n' kj (Int.le_refl _) hb AT;rw[<- uh,jf]at hr;have FE:0<z.length:=by rw[mR];exact h0
   obtain⟨z1,z2⟩:=JQ (os:=σ.aa) (w:=γ.w) (Z:=γ.Z) (blk:=γ.blk) z n'.toNat (n'.toNat*(ty P (ty P t).elem).size) (by rw[mR]) FE;refine FB (ob:=.arr (ty P (ty P t).elem).size (aO n'.toNat (z.map .lit))) (cv:=.slice (some ⟨γ.w.heap.size,0,none⟩) n'.toNat n'.toNat) (cap:=n'.toNat) (cur:=madeCells z.toArray (n'.toNat*(ty P (ty P t).elem).size)) (t:=(ty P t).elem) h ha hd ?_ ?_ hK ?_
   ·refine⟨h0,?_,by rw[size_madeCells];omega,IM,by unfold maxLen;omega,?_⟩
    ·intro row bE;simp only[List.mem_replicate]at bE;rw[bE.2];simp[mR]
    ·intro r c v hv;rw[fc];have cF:r<n'.toNat:=by
      simp only[cellAt,Option.bind_eq_some_iff]at hv;obtain⟨y,hy,_⟩:=hv;have:=(aR.1 hy).1;simpa using this
     simp only[cellAt,List.getElem?_replicate,cF,if_true,r8]at hv;have bn:c<(ty P (ty P t).elem).size:=by
      have:=(aR.1 hv).1;simp at this;omega
     have aS:=zs cF bn;have hx:((bk n'.toNat).flatMap λ_=>z.map AV.lit)[r*(ty P (ty P t).elem).size+c]?=some v:=by
      have key:∀ (m r:Nat),r<m->((bk m).flatMap λ_=>z.map AV.lit)[r*z.length+c]?=(z.map AV.lit)[c]?:=by
       intro m;have hlen:∀ m,((bk m).flatMap λ_=>z.map AV.lit).length=m*z.length:=by
        intro m
        induction m with
        |zero=>simp
        |succ m ih=>rw[tR,tS,bL,ih];simp[fh]
       induction m with
       |zero=>intro r hr;omega
       |succ m ih =>
        intro r hr;rw[tR,tS];by_cases x9:r<m
        ·rw[eL (by rw[hlen,mR];exact zs x9 bn)];exact ih r x9
        ·have:r=m:=AT;subst this;rw[gZ (by rw[hlen];omega),hlen];simp
      rw[<- mR,key _ _ cF];exact hv
     exact z2 _ _ hx
   ·have:=aw.ref (os:=σ.aa++[.arr (ty P (ty P t).elem).size (aO n'.toNat (z.map .lit))]) (w:=γ.w.alloc (.cells (madeCells z.toArray (n'.toNat*(ty P (ty P t).elem).size)) (ty P t).elem)) (Z:=γ.Z) (blk:=cW γ.blk σ.aa.length (some (γ.w.heap.size,0,n'.toNat)))
     σ.aa.length (ty P (ty P t).elem).size 0 n'.toNat γ.w.heap.size 0 n'.toNat n'.toNat _ (EZ ..) (by simp[cW]) IM AT (aX _)
    simpa using this
   ·simp only[execOp,Sem.run_bind,hl.cD,hc.cD,hr,Result.andThen_ok,Sem.run_pure]
  ·exact hW.elim
 case fieldAddr s x f =>
  simp only at hW;have hx:=E x;split at hW
  ·rename_i off ft size hk gK;obtain⟨aJ,hW⟩:=hW;obtain⟨fs,hu,lL⟩:=JW hk;obtain⟨fd,FI,zi,Bl⟩:∃fd:Field,fs[f]?=some fd/\fd.offset=off/\wH P fd.type=size:=by
    rw[lL]at gK;simp only[bV,CE]at gK;cases hg:fs[f]? with
    |none=>simp[hg]at gK
    |some fd=>simp[hg]at gK;exact⟨fd,rfl,gK.1,gK.2.2⟩
   have eF:∀ (b o:Nat),(Instr.fieldAt s (.pointer (some ⟨b,o,none⟩)) f).run P γ.w=.ok (.pointer (some ⟨b,o+off,none⟩)) γ.w:=by
    intro b o;have hso:(sizeOf fd.type).run P γ.w=.ok size γ.w:=by
     rw[<- Bl];unfold wH at Bl ⊢;cases hi:P.info? fd.type with
     |none=>rw[hi]at Bl;simp at Bl;omega
     |some i=>simp[sizeOf,typeInfo,hi]
    have bZ:¬ size=0:=AT;simp[Instr.fieldAt,run_underlying hu,FI,Instr.sureAddr,fieldPlace,hso,bZ,Addr.rF,zi]
   split at hW
   ·rename_i id r c he;rw[he]at hx;cases ho:σ.aa[id]? with
    |none=>simp[ho]at hW
    |some ob =>
     have bN:ob≠.gone/\K (σ.put dst (.ptr id r (c+off))):=by cases ob<;>simp[ho]at hW ⊢<;>exact hW
     rcases hx.JG with hg|⟨b,cap,cells,h1,h2,rfl,aQ⟩|⟨sz,b,o,cap,rows,h1,h2,aQ⟩
     ·rw[ho]at hg;simp at hg;exact absurd hg bN.1
     ·exact da h ha hd (.nF id (c+off) b cap cells h1 h2) bN.2 (by simp only[execOp,Sem.run_bind,aQ,eF,Result.andThen_ok,Sem.run_pure])
     ·refine da h ha hd (.oc id r (c+off) sz b o cap rows h1 h2) bN.2 ?_;simp only[execOp,Sem.run_bind,aQ,eF,Result.andThen_ok,Sem.run_pure];simp[tU]
   ·rename_i cells he;rw[he]at hx;obtain⟨b,o,g,aQ,h1,h2,h3⟩:=hx.JH;refine da h ha hd (.bY (cells.drop off) b (o+off) (λj=>g (off+j)) h1 ?_ ?_) hW ?_
    ·intro j x hj;rw[nW]at hj;have:=h2 _ _ hj;simpa [tU] using this
    ·intro j x hj;rw[nW]at hj;exact h3 _ _ hj
    ·simp only[execOp,Sem.run_bind,aQ,eF,Result.andThen_ok,Sem.run_pure]
   ·exact hW.elim
  ·exact hW.elim
 case extract x i =>
  simp only at hW;have hx:=E x;split at hW
  ·rename_i vs he;rw[he]at hx;obtain⟨bd,aQ,hs,hr⟩:=hx.Qi;split at hW
   ·rename_i v hv;have hi:i<bd.size:=by rw[hs];exact(aR.1 hv).1
    refine da h ha hd (hr i v hv) hW ?_;simp[execOp,aQ,Instr.extract,hi,eA]
   ·exact hW.elim
  ·exact hW.elim
 case field s x f =>
  simp only at hW;have hx:=E x;split at hW
  ·rename_i off ft size hk gK;obtain⟨dP,uh,hW⟩:=hW;obtain⟨fs,hu,lL⟩:=JW hk;obtain⟨fd,FI,zi,Bl⟩:∃fd:Field,fs[f]?=some fd/\fd.offset=off/\fd.type=ft:=by
    rw[lL]at gK;simp only[bV,CE]at gK;cases hg:fs[f]? with
    |none=>simp[hg]at gK
    |some fd=>simp[hg]at gK;exact⟨fd,rfl,gK.1,gK.2.1⟩
   subst zi;subst Bl;split at hW
   ·rename_i cs he;rw[he]at hx;obtain⟨bd,aQ,hs,hr⟩:=hx.Qh;split at hW
    ·rename_i lN;refine da h ha hd (v:=.agg ((cs.drop fd.offset).take size)) (cv:=.agg (bd.extract fd.offset (fd.offset+size))) ?_ hW.2 ?_
     ·have h1:=hW.1;refine .agg _ _ N0 (λj y hj=>?_);have gy:j<size:=by have:=(aR.1 hj).1;simp at this;omega
      rw[uY,if_pos gy,nW]at hj;have:=hr _ _ hj;simp[eA,Array.getElem?_extract]at this ⊢;rw[if_pos AT];exact this
     ·simp[execOp,aQ,Instr.field,run_underlying hu,FI,asAgg,part,JX dP,run_sizeOf dP,lN,uh]
    ·rename_i lN;split at hW
     ·rename_i v hv;have hi:fd.offset<bd.size:=by rw[hs];exact(aR.1 hv).1
      refine da h ha hd (hr _ v hv) hW ?_;simp[execOp,aQ,Instr.field,run_underlying hu,FI,asAgg,part,JX dP,lN,hi,eA]
     ·exact hW.elim
   ·exact hW.elim
  ·exact hW.elim
 case indexAddr t x i =>
  simp only at hW;have hx:=E x;have hi:=E i;split at hW
  ·rename_i id sz off len k n hk he hf;rw[he]at hx;rw[hf]at hi;split at hW
   ·rename_i cU rows ho;obtain⟨⟨rfl,aJ,dP,h0,h1⟩,hK⟩:=hW;have ht:=ug hk;rcases hx.JI with hg|⟨_,_,_,rfl,_⟩|⟨rfl,_⟩|⟨b,o,cap,cap',gx,g1,g2,g3,g4,g5,aQ⟩
    ·rw[ho]at hg;simp at hg
    ·omega
    ·omega
    ·refine da h ha hd (.oc id (off+n.toNat) 0 _ b o cap gx g1 g2) hK ?_;have hc:0<=n/\n<(len:Int):=⟨h0,h1⟩;simp only[execOp,Sem.run_bind,Instr.indexAt,aQ,hi.cD,asIntOf,Sem.run_pure,Result.andThen_ok,run_underlying ht,Sem.run_ite,hc,and_self,if_true,run_sizeOf dP,<- aJ,Addr.rF];simp[fh,tU]
   ·exact hW.elim
  ·rename_i sz rows k n hk he hf;rw[he]at hx;rw[hf]at hi;obtain⟨⟨aJ,dP,h0,h1⟩,hK⟩:=hW;have ht:=ug hk;rcases hx.zr.inv with⟨ad,cap,rfl,aQ⟩|⟨b,o,cap,f,aQ,g1,g2,g3,g4,g5⟩
   ·simp at h1;omega
   ·have hn:n.toNat<rows.length:=AT;refine da h ha hd (.bY (rows.getD n.toNat []) b (o+n.toNat*sz) (λj=>f n.toNat j) g1 ?_ ?_) hK ?_
    ·intro j y hj;have:cellAt rows n.toNat j=some y:=by
      rw[ax]at hj;simp[hn]at hj;simp[cellAt,hn,hj]
     have:=g4 _ _ _ this;simpa [tU] using this
    ·intro j y hj;have:cellAt rows n.toNat j=some y:=by
      rw[ax]at hj;simp[hn]at hj;simp[cellAt,hn,hj]
     exact g5 _ _ _ this
    ·have hc:0<=n/\n<(rows.length:Int):=⟨h0,AT⟩;simp only[execOp,Sem.run_bind,Instr.indexAt,aQ,hi.cD,asIntOf,Sem.run_pure,Result.andThen_ok,run_underlying ht,Sem.run_ite,hc,and_self,if_true,run_sizeOf dP,<- aJ,Addr.rF]
  ·rename_i id r c k n hk he hf;rw[he]at hx;rw[hf]at hi;cases ho:σ.aa[id]? with
   |none=>simp[ho]at hW
   |some ob =>
    have bN:ob≠.gone/\((ty P (ty P t).elem).kind≠99/\0<=n/\n<(ty P t).len)/\K (σ.put dst (.ptr id r (c+n.toNat*(ty P (ty P t).elem).size))):=by cases ob<;>simp[ho]at hW ⊢<;>exact hW
    obtain⟨uj,⟨dP,h0,h1⟩,hK⟩:=bN;have ht:=JY hk;have hc:0<=n/\n<((ty P t).len:Int):=⟨h0,h1⟩;rcases hx.JG with hg|⟨b,cap,cells,h1,h2,rfl,aQ⟩|⟨sz,b,o,cap,rows,h1,h2,aQ⟩
    ·rw[ho]at hg;simp at hg;exact absurd hg uj
    ·refine da h ha hd (.nF id _ b cap cells h1 h2) hK ?_;simp only[execOp,Sem.run_bind,Instr.indexAt,aQ,hi.cD,asIntOf,Sem.run_pure,Result.andThen_ok,run_underlying ht,Instr.sureAddr,Sem.run_ite,hc,and_self,if_true,run_sizeOf dP,Addr.rF]
    ·refine da h ha hd (.oc id r _ sz b o cap rows h1 h2) hK ?_;simp only[execOp,Sem.run_bind,Instr.indexAt,aQ,hi.cD,asIntOf,Sem.run_pure,Result.andThen_ok,run_underlying ht,Instr.sureAddr,Sem.run_ite,hc,and_self,if_true,run_sizeOf dP,Addr.rF];simp[tU]
  ·rename_i cells k n hk he hf;rw[he]at hx;rw[hf]at hi;obtain⟨⟨dP,h0,h1⟩,hK⟩:=hW;have ht:=JY hk;have hc:0<=n/\n<((ty P t).len:Int):=⟨h0,h1⟩;obtain⟨b,o,g,aQ,g1,g2,g3⟩:=hx.JH;refine da h ha hd (.bY (cells.drop (n.toNat*(ty P (ty P t).elem).size)) b (o+n.toNat*(ty P (ty P t).elem).size) (λj=>g (n.toNat*(ty P (ty P t).elem).size+j)) g1 ?_ ?_) hK ?_
   ·intro j x hj;rw[nW]at hj;rw[tU];exact g2 _ _ hj
   ·intro j x hj;rw[nW]at hj;exact g3 _ _ hj
   ·simp only[execOp,Sem.run_bind,Instr.indexAt,aQ,hi.cD,asIntOf,Sem.run_pure,Result.andThen_ok,run_underlying ht,Instr.sureAddr,Sem.run_ite,hc,and_self,if_true,run_sizeOf dP,Addr.rF]
  ·exact hW.elim
 case slice t x lo hi mx =>
  simp only at hW;obtain⟨hk,dP,rfl,hW⟩:=hW;have ht:=ug hk;have hx:=E x;have eF:∀ (ad:Option Addr) (len cap l h:Nat) (lo hi:Option Value),(lo=none/\l=0\/∃ k,lo=some (.int k (l:Int)))->(hi=none/\h=len\/∃ k,hi=some (.int k (h:Int)))->l<=h->h<=cap ->
    (ty P (ty P t).elem).kind≠99->(Instr.sliceAt t (.slice ad len cap) lo hi none).run P γ.w=.ok (.slice (if cap=l then ad else ad.map (·.add (l*(ty P (ty P t).elem).size))) (h-l) (cap-l)) γ.w:=by
   intro ad len cap l h lo hi gN oo h1 h2 dP;have c1:(l:Int)<=h:=AT;have c2:(h:Int)<=cap:=AT;rcases gN with⟨rfl,rfl⟩|⟨k,rfl⟩<;>rcases oo with⟨rfl,rfl⟩|⟨k',rfl⟩ <;>
    simp[Instr.sliceAt,Instr.slice,Instr.sliceBounds,Instr.sliceBound,asIntOf,run_underlying ht,run_sizeOf dP,h1,h2]
  split at hW
  ·rename_i id sz off len he;rw[he]at hx;split at hW
   ·rename_i cU rows ho;obtain⟨rfl,aJ,hW⟩:=hW;obtain⟨h0,cF,_⟩:=h.dx _ _ ho;have key:∀ (l hh:Nat) (mS ar:Option Operand),(mS.map a.eval=none/\l=0\/∃ k,mS.map a.eval=some (.int k (l:Int)))->(ar.map a.eval=none/\hh=len\/∃ k,ar.map a.eval=some (.int k (hh:Int)))->l<=hh->hh<=len ->
      K (σ.put dst (.ref id cU (off+l) (hh-l)))->zz ⟨dst,.slice t x mS ar none,type,pos,after,guard⟩ σ γ a K ((execOp a.eval ⟨dst,.slice t x mS ar none,type,pos,after,guard⟩).run P γ.w):=by
     intro l hh mS ar gN oo h1 h2 hK;rcases hx.JI with hg|⟨g1,g2,rfl,rfl,aQ⟩|⟨rfl,b,xx,bo,gx,g1,g2,g3,aQ⟩|⟨b,o,cap,cap',gx,g1,g2,g3,g4,g5,aQ⟩
     ·rw[ho]at hg;simp at hg
     ·have:l=0:=AT;subst this;have:hh=0:=AT;subst this;refine da (o:=⟨dst,.slice t x mS ar none,type,pos,after,guard⟩) h ha hd (.lJ id _ g1 g2) hK ?_;have:=eF none 0 0 0 0 _ _ gN oo AT AT dP;simp only[execOp,Sem.run_bind,aQ,p7,this,Result.andThen_ok,Sem.run_pure];simp
     ·have:l=0:=AT;subst this;have:hh=0:=AT;subst this;refine da (o:=⟨dst,.slice t x mS ar none,type,pos,after,guard⟩) h ha hd (.mg id _ _ b xx bo gx g1 g2 AT) hK ?_;have:=eF (some ⟨b,xx,none⟩) 0 0 0 0 _ _ gN oo AT AT dP;simp only[execOp,Sem.run_bind,aQ,p7,this,Result.andThen_ok,Sem.run_pure];simp
     ·have hr:=eF (some ⟨b,o+off*cU,none⟩) len cap' l hh _ _ gN oo h1 AT dP;by_cases hm:cap'=l
      ·have e1:hh=l:=AT;subst e1;rw[if_pos hm]at hr;have e2:hh-hh=0:=AT;have e3:cap'-hh=0:=AT;rw[e2,e3]at hr;rw[e2]at hK;refine da (o:=⟨dst,.slice t x mS ar none,type,pos,after,guard⟩) h ha hd (.mg id _ _ b (o+off*cU) (o,cap) gx g1 g2 AT) hK ?_;simp only[execOp,Sem.run_bind,aQ,p7,hr,Result.andThen_ok,Sem.run_pure]
      ·rw[if_neg hm]at hr;refine da (o:=⟨dst,.slice t x mS ar none,type,pos,after,guard⟩) h ha hd (.ref id _ (off+l) (hh-l) b o cap (cap'-l) gx g1 g2 AT AT AT) hK ?_;simp only[execOp,Sem.run_bind,aQ,p7,hr,Result.andThen_ok,Sem.run_pure,gF,Addr.rF,<- aJ];simp[fh,tU]
    split at hW
    ·rename_i e1 e2;have gN:lo=none:=by cases lo<;>simp at e1 ⊢
     have oo:hi=none:=by cases hi<;>simp at e2 ⊢
     subst gN;subst oo;exact key 0 len none none (.inl ⟨rfl,rfl⟩) (.inl ⟨rfl,rfl⟩) AT (aX _) (by simpa using hW)
    ·rename_i k l e1 e2;have oo:hi=none:=by cases hi<;>simp at e2 ⊢
     subst oo;obtain⟨lo,rfl,f1⟩:∃y,lo=some y/\ev σ y=.lit (.int k l):=by cases lo<;>simp at e1 ⊢;exact e1
     obtain⟨⟨c1,c2,_⟩,hK⟩:=hW;have hl:=E lo;rw[f1]at hl;refine key l.toNat len (some lo) none (.inr ⟨k,?_⟩) (.inl ⟨rfl,rfl⟩) AT (aX _) hK;simp[hl.cD];omega
    ·rename_i k hh e1 e2;have gN:lo=none:=by cases lo<;>simp at e1 ⊢
     subst gN;obtain⟨hi,rfl,f2⟩:∃y,hi=some y/\ev σ y=.lit (.int k hh):=by cases hi<;>simp at e2 ⊢;exact e2
     obtain⟨⟨c1,c2⟩,hK⟩:=hW;have hl:=E hi;rw[f2]at hl;refine key 0 hh.toNat none (some hi) (.inl ⟨rfl,rfl⟩) (.inr ⟨k,?_⟩) AT AT (by simpa using hK);simp[hl.cD];omega
    ·rename_i k l k' hh e1 e2;obtain⟨lo,rfl,f1⟩:∃y,lo=some y/\ev σ y=.lit (.int k l):=by cases lo<;>simp at e1 ⊢;exact e1
     obtain⟨hi,rfl,f2⟩:∃y,hi=some y/\ev σ y=.lit (.int k' hh):=by cases hi<;>simp at e2 ⊢;exact e2
     obtain⟨⟨c1,c2,c3⟩,hK⟩:=hW;have hl:=E lo;have Db:=E hi;rw[f1]at hl;rw[f2]at Db;refine key l.toNat hh.toNat (some lo) (some hi) (.inr ⟨k,?_⟩) (.inr ⟨k',?_⟩) AT AT hK
     ·simp[hl.cD];omega
     ·simp[Db.cD];omega
    ·exact hW.elim
   ·exact hW.elim
  ·rename_i sz rows he;rw[he]at hx;obtain⟨aJ,hW⟩:=hW;have key:∀ (l hh:Nat) (mS ar:Option Operand),(mS.map a.eval=none/\l=0\/∃ k,mS.map a.eval=some (.int k (l:Int)))->(ar.map a.eval=none/\hh=rows.length\/∃ k,ar.map a.eval=some (.int k (hh:Int)))->l<=hh->hh<=rows.length ->
     K (σ.put dst (.tree sz ((rows.drop l).take (hh-l))))->zz ⟨dst,.slice t x mS ar none,type,pos,after,guard⟩ σ γ a K ((execOp a.eval ⟨dst,.slice t x mS ar none,type,pos,after,guard⟩).run P γ.w):=by
    intro l hh mS ar gN oo h1 h2 hK;rcases hx.zr.inv with⟨ad,cap,rfl,aQ⟩|⟨b,o,cap,f,aQ,g1,g2,g3,g4,g5⟩
    ·have e1:hh=0:=by simpa using h2
     subst e1;have e2:l=0:=AT;subst e2;have hr:=eF ad 0 cap 0 0 _ _ gN oo AT AT dP;refine da (o:=⟨dst,.slice t x mS ar none,type,pos,after,guard⟩) h ha hd (v:=.tree sz (([].drop 0).take (0-0))) (cv:=.slice (if cap=0 then ad else ad.map (·.add (0*(ty P (ty P t).elem).size))) (0-0) (cap-0)) (.cC _ _ (.nil sz (cap-0) _)) hK ?_;simp only[execOp,Sem.run_bind,aQ,p7,hr,Result.andThen_ok,Sem.run_pure]
    ·have hr:=eF (some ⟨b,o,none⟩) rows.length cap l hh _ _ gN oo h1 AT dP;by_cases gP:hh-l=0
     ·have e:(rows.drop l).take (hh-l)=[]:=by rw[gP];simp
      rw[e]at hK;rw[gP]at hr;refine da (o:=⟨dst,.slice t x mS ar none,type,pos,after,guard⟩) h ha hd (v:=.tree sz []) (cv:=.slice (if cap=l then some ⟨b,o,none⟩ else(some (⟨b,o,none⟩:Addr)).map (·.add (l*(ty P (ty P t).elem).size))) 0 (cap-l)) (.cC _ _ (.nil sz (cap-l) _)) hK ?_;simp only[execOp,Sem.run_bind,aQ,p7,hr,Result.andThen_ok,Sem.run_pure]
     ·have bZ:¬ cap=l:=AT;rw[if_neg bZ]at hr;have adA:rows≠[]:=by intro e;subst e;simp at h2;omega
      refine da (o:=⟨dst,.slice t x mS ar none,type,pos,after,guard⟩) h ha hd (.cC _ _ (hJ.sub g1 g2 g4 g5 l (hh-l) (cap':=cap-l) AT g3 AT)) hK ?_;simp only[execOp,Sem.run_bind,aQ,p7,hr,Result.andThen_ok,Sem.run_pure,gF,Addr.rF,<- aJ adA]
   split at hW
   ·rename_i e1 e2;have gN:lo=none:=by cases lo<;>simp at e1 ⊢
    have oo:hi=none:=by cases hi<;>simp at e2 ⊢
    subst gN;subst oo;exact key 0 rows.length none none (.inl ⟨rfl,rfl⟩) (.inl ⟨rfl,rfl⟩) AT (aX _) (by simpa using hW)
   ·rename_i k l e1 e2;have oo:hi=none:=by cases hi<;>simp at e2 ⊢
    subst oo;obtain⟨lo,rfl,f1⟩:∃y,lo=some y/\ev σ y=.lit (.int k l):=by cases lo<;>simp at e1 ⊢;exact e1
    obtain⟨⟨c1,c2⟩,hK⟩:=hW;have hl:=E lo;rw[f1]at hl;refine key l.toNat rows.length (some lo) none (.inr ⟨k,?_⟩) (.inl ⟨rfl,rfl⟩) AT (aX _) ?_
    ·simp[hl.cD];omega
    ·have e:(rows.drop l.toNat).take (rows.length-l.toNat)=rows.drop l.toNat:=List.take_of_length_le IM;rw[e];exact hK
   ·rename_i k hh e1 e2;have gN:lo=none:=by cases lo<;>simp at e1 ⊢
    subst gN;obtain⟨hi,rfl,f2⟩:∃y,hi=some y/\ev σ y=.lit (.int k hh):=by cases hi<;>simp at e2 ⊢;exact e2
    obtain⟨⟨c1,c2⟩,hK⟩:=hW;have hl:=E hi;rw[f2]at hl;refine key 0 hh.toNat none (some hi) (.inl ⟨rfl,rfl⟩) (.inr ⟨k,?_⟩) AT AT (by simpa using hK);simp[hl.cD];omega
   ·rename_i k l k' hh e1 e2;obtain⟨lo,rfl,f1⟩:∃y,lo=some y/\ev σ y=.lit (.int k l):=by cases lo<;>simp at e1 ⊢;exact e1
    obtain⟨hi,rfl,f2⟩:∃y,hi=some y/\ev σ y=.lit (.int k' hh):=by cases hi<;>simp at e2 ⊢;exact e2
    obtain⟨⟨c1,c2,c3⟩,hK⟩:=hW;have hl:=E lo;have Db:=E hi;rw[f1]at hl;rw[f2]at Db;refine key l.toNat hh.toNat (some lo) (some hi) (.inr ⟨k,?_⟩) (.inr ⟨k',?_⟩) AT AT ?_
    ·simp[hl.cD];omega
    ·simp[Db.cD];omega
    ·rw[<- List.drop_take];exact hK
   ·exact hW.elim
  ·exact hW.elim
 case call c =>
  obtain⟨callee,args,argTypes⟩:=c;have nB:∀ l,args.toList=l->args=l.toArray:=by intro l h;rw[<- h]
  have FJ:∀ l,argTypes.toList=l->argTypes=l.toArray:=by intro l h;rw[<- h]
  cases callee with
  |value f=>exact hW.elim
  |invoke r m=>exact hW.elim
  |builtin b =>
   cases b
   case len =>
    simp only at hW;split at hW
    ·rename_i x t bW jM;have ea:=nB _ bW;have et:=FJ _ jM;subst ea;subst et;have hx:=E x;have eF:(ty P t).kind=1->∀ ad n c,a.eval x=.slice ad n c->(execOp a.eval ⟨dst,.call ⟨.builtin .len,[x].toArray,[t].toArray⟩,type,pos,after,guard⟩).run P γ.w=.ok (.value (.int .i64 (n:Int))) γ.w:=by
      intro hk ad n c hc;have ht:=ug hk;simp[execOp,resolve,invoke,builtin,Builtin.len_,run_underlying ht,hc,goInt]
     split at hW
     ·rename_i id sz off len he;rw[he]at hx;obtain⟨hk,hW⟩:=hW;split at hW
      ·rename_i cU rows ho;rcases hx.JI with hg|⟨_,_,_,rfl,aQ⟩|⟨rfl,_,_,_,_,_,_,_,aQ⟩|⟨b,o,cap,cap',gx,g1,g2,g3,g4,g5,aQ⟩
       ·rw[ho]at hg;simp at hg
       ·exact da h ha hd (.lit _) hW.2 (eF hk _ _ _ aQ)
       ·exact da h ha hd (.lit _) hW.2 (eF hk _ _ _ aQ)
       ·exact da h ha hd (.lit _) hW.2 (eF hk _ _ _ aQ)
      ·exact hW.elim
     ·rename_i sz rows he;rw[he]at hx;rcases hx.zr.inv with⟨ad,cap,rfl,aQ⟩|⟨b,o,cap,f,aQ,_⟩
      ·exact da h ha hd (.lit _) hW.2 (eF hW.1 _ _ _ aQ)
      ·exact da h ha hd (.lit _) hW.2 (eF hW.1 _ _ _ aQ)
     ·rename_i he;rw[he]at hx;exact da h ha hd (.lit _) hW.2 (eF hW.1 _ _ _ hx.cD)
     ·rename_i id he;obtain⟨hk,hW⟩:=hW;split at hW
      ·rename_i ag L ho;obtain⟨kt,ht⟩:=JM hk;rw[he]at hx;obtain⟨_,_,b,f,hb,aQ,iL,_⟩:=C4 h hx (id:=id) (ag:=ag) (L:=L) (by simp[lE,ho]);refine da h ha hd (.lit _) hW ?_;simp[execOp,resolve,invoke,builtin,Builtin.len_,run_underlying ht,aQ,goInt,MapKept.run_getObj_map iL,cN,qx]
      ·exact hW.elim
     ·exact hW.elim
    ·exact hW.elim
   case append =>
    simp only at hW;split at hW
    ·rename_i s x t t' bW jM;have ea:=nB _ bW;have et:=FJ _ jM;subst ea;subst et;split at hW
     ·rename_i z pre σ1 sz src hk hz mP qw;obtain⟨⟨rfl,dP,aJ,h0,mR,hlen,C',mT⟩,hK⟩:=hW;have adB:kZ σ sz (ev σ s)=some (pre,σ1):=by rw[aJ];exact mP
      obtain⟨pj,γ1,h1,h2,h3,h4,h5⟩:=adC (P:=P) (oty:=type) h hk dP hz aJ h0 mR (E s) (E x) adB qw hlen C' mT;refine Bj (γ1:=γ1) h4 h3 (by rw[h2];exact ha) hd h5 hK ?_;simp[execOp,resolve,invoke,builtin,h1]
     ·exact hW.elim
    ·exact hW.elim
   case min =>
    simp only at hW;split at hW
    ·rename_i x y bW;have ea:=nB _ bW;subst ea;have hx:=E x;have hy:=E y;split at hW
     ·rename_i k p k' q he hf;rw[he]at hx;rw[hf]at hy;obtain⟨rfl,hK⟩:=hW;refine da h ha hd (.lit _) hK ?_;have e:(if q<p then q else p)=min p q:=by simp only[Int.min_def];split<;>split<;>omega
      simp[execOp,resolve,invoke,builtin,Builtin.min_,Builtin.min2,hx.cD,hy.cD,e]
     ·exact hW.elim
    ·exact hW.elim
   case max =>
    simp only at hW;split at hW
    ·rename_i x y bW;have ea:=nB _ bW;subst ea;have hx:=E x;have hy:=E y;split at hW
     ·rename_i k p k' q he hf;rw[he]at hx;rw[hf]at hy;obtain⟨rfl,hK⟩:=hW;refine da h ha hd (.lit _) hK ?_;have e:(if q > p then q else p)=max p q:=by simp only[Int.max_def];split<;>split<;>omega
      simp[execOp,resolve,invoke,builtin,Builtin.max_,Builtin.max2,hx.cD,hy.cD,e]
     ·exact hW.elim
    ·exact hW.elim
   case copy =>
    simp only at hW;split at hW
    ·rename_i s x t t' bW jM;have ea:=nB _ bW;have et:=FJ _ jM;subst ea;subst et;have hs:=E s;split at hW
     ·rename_i id sz off len cU src he qw;rw[he]at hs;split at hW
      ·rename_i kE rows ho;obtain⟨⟨hk,dP,rfl,rfl,aJ,h0,mT⟩,hK⟩:=hW;obtain⟨w',h1,h2,h3⟩:=adD (P:=P) (t':=t') (oty:=type) h hk dP aJ h0 hs (E x) ho qw mT;refine Bj (γ1:={ γ with w:=w' }) h3 h2 ha hd (.lit _) hK ?_;simp[execOp,resolve,invoke,builtin,h1]
      ·exact hW.elim
     ·exact hW.elim
    ·exact hW.elim
   case clear =>
    simp only at hW;split at hW
    ·rename_i s t bW jM;have ea:=nB _ bW;have et:=FJ _ jM;subst ea;subst et;have hs:=E s;split at hW
     ·rename_i id sz off len z he hz;rw[he]at hs;split at hW
      ·rename_i cU rows ho;obtain⟨⟨hk,dP,rfl,mR,h0,wI⟩,hK⟩:=hW;obtain⟨w',h1,h2,h3⟩:=adE (P:=P) (oty:=type) h hk dP mR h0 hz wI hs ho;refine Bj (γ1:={ γ with w:=w' }) h3 h2 ha hd (.lit _) hK ?_;simp[execOp,resolve,invoke,builtin,h1]
      ·exact hW.elim
     ·exact hW.elim
    ·exact hW.elim
   all_goals exact hW.elim
 case convert s d x =>
  simp only at hW;have hx:=E x;split at hW
  ·rename_i k k' n wE he;rw[he]at hx;obtain⟨hu,hK⟩:=hW;obtain⟨u,hu⟩:=Option.isSome_iff_exists.1 hu;refine da h ha hd (.lit _) hK ?_;simp[execOp,convert,run_underlying hu,run_underlying wE,hx.cD,Conv.intToInt]
  ·exact hW.elim
 all_goals exact hW.elim
end Go.Am

