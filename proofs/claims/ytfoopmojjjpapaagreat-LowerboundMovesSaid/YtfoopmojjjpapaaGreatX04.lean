import Derived.Test.YtfoopmojjjpapaaGreatX03
import Derived.MapKept
import Derived.Laws.StructEq
set_option linter.all false
set_option maxHeartbeats 0
set_option maxRecDepth 20000
open List renaming getElem?_take→uZ,getElem?_drop→mI,getElem?_set→bY,getElem?_eq_some_iff→aR,length_append→bF,length_singleton→AL,mem_append→cC,mem_singleton→cU,getElem?_append_left→eB,getElem?_append_right→gX,getElem?_cons_zero→uW,ext_getElem?→qS,length_set→bK,mem_or_eq_of_mem_set→qU,getElem?_eq_getElem→bT,getD_eq_getElem?_getD→aB,getElem?_concat_length→EY,getElem?_map→b9,replicate→aJ,range→bn,range_succ→u5,flatMap_append→tN
open Nat renaming add_mul→fN,le_refl→bb,sub_self→iT,ne_of_lt→ns,lt_or_ge→dE,sub_zero→u3,zero_add→gm,add_assoc→wB
open Option renaming some→cm,map_some→gY,map_none→pR,getD_some→pQ,bind_some→rU
open Array renaming range→Iw,getElem?_eq_some_iff→mg,getElem?_setIfInBounds_ne→tM,getElem?_toList→Cn,getD_eq_getD_getElem?→ek
namespace Go.Am
def ac9{P:Program}(w:World)(t e:TypeId)(a:Option Addr)(n c:Nat)(ht:P.underlying t=some (.slice e)):
  (binOp .eql t (.slice a n c) (.slice none 0 0)).run P w=.ok (.bool a.isNone) w:=by
 have h:∀ d:Nat,(Op.equalIn (d+1) t (.slice a n c) (.slice none 0 0)).run P w=.ok a.isNone w:=λd=>by
  cases a<;>simp[Op.equalIn,run_underlying ht]
 simp only[binOp];simp[Op.equal,Op.maxDepth,h 9999]
def ac'{P:Program}(w:World)(t e:TypeId)(a:Option Addr)(n c:Nat)(ht:P.underlying t=some (.slice e)):
  (binOp .neq t (.slice a n c) (.slice none 0 0)).run P w=.ok (.bool (!a.isNone)) w:=by
 have h:∀ d:Nat,(Op.equalIn (d+1) t (.slice a n c) (.slice none 0 0)).run P w=.ok a.isNone w:=λd=>by
  cases a<;>simp[Op.equalIn,run_underlying ht]
 simp only[binOp];simp[Op.equal,Op.maxDepth,h 9999]
variable {P:Program}
def ada(w:World)(t:TypeId){e:TypeId}(a:Addr)(n c:Nat)(ht:P.underlying t=some (.slice e)):
  (binOp .eql t (.slice (some a) n c) (.slice none 0 0)).run P w=.ok (.bool false) w:=by
 have h:∀ d:Nat,(Op.equalIn (d+1) t (.slice (some a) n c) (.slice none 0 0)).run P w=.ok false w:=λd=>by
  simp[Op.equalIn,run_underlying ht]
 simp only[binOp];simp[Op.equal,Op.maxDepth,h 9999]
def adb(w:World)(t:TypeId){e:TypeId}(a:Addr)(n c:Nat)(ht:P.underlying t=some (.slice e)):
  (binOp .neq t (.slice (some a) n c) (.slice none 0 0)).run P w=.ok (.bool true) w:=by
 have h:∀ d:Nat,(Op.equalIn (d+1) t (.slice (some a) n c) (.slice none 0 0)).run P w=.ok false w:=λd=>by
  simp[Op.equalIn,run_underlying ht]
 simp only[binOp];simp[Op.equal,Op.maxDepth,h 9999]
def aw.Jt{os:List Ob}{w:World}{Z:Nat->Prop}{blk:fX}{id r c:Nat}{cv:Value}(h:aw os w Z blk (.ptr id r c) cv):
  os[id]?=some .gone\/(∃ b cap cells,os[id]?=some (.var cells)/\blk id=some (b,0,cap)/\r=0/\cv=.pointer (some ⟨b,c,none⟩)) \/
  (∃ sz b o cap rows,os[id]?=some (.arr sz rows)/\blk id=some (b,o,cap)/\cv=.pointer (some ⟨b,o+(r*sz+c),none⟩)):=by
 cases h with
 |cG _ _ h=>cases h
 |mP _ _ _ _ h=>exact .inl h
 |nA _ _ b cap cells h hb=>exact .inr (.inl ⟨b,cap,cells,h,hb,rfl,rfl⟩)
 |n9 _ _ _ sz b o cap rows h hb=>exact .inr (.inr ⟨sz,b,o,cap,rows,h,hb,rfl⟩)
def aw.Ju{os:List Ob}{w:World}{Z:Nat->Prop}{blk:fX}{cells:List AV}{cv:Value}(h:aw os w Z blk (.cd cells) cv):
  ∃ b o,∃ f:Nat->Value,cv=.pointer (some ⟨b,o,none⟩)/\Z b/\(∀ j x,cells[j]?=some x->w.cell? ⟨b,o+j,none⟩=some (f j))/\∀ j x,cells[j]?=some x->gx w Z x (f j):=by
 cases h with
 |cG _ _ h=>cases h
 |cd _ b o f h1 h2 h3=>exact⟨b,o,f,rfl,h1,h2,h3⟩
def aw.Jv{os:List Ob}{w:World}{Z:Nat->Prop}{blk:fX}{id sz off len:Nat}{cv:Value}(h:aw os w Z blk (.ref id sz off len) cv):
  os[id]?=some .gone\/(os[id]?=some (.arr sz [])/\blk id=none/\off=0/\len=0/\cv=.slice none 0 0) \/
  (len=0/\∃ b x bo rows,os[id]?=some (.arr sz rows)/\blk id=some (b,bo)/\off<=rows.length/\cv=.slice (some ⟨b,x,none⟩) 0 0) \/
  (∃ b o cap cap' rows,os[id]?=some (.arr sz rows)/\blk id=some (b,o,cap)/\off+len<=rows.length/\off+cap'<=cap/\len<=cap'/\cv=.slice (some ⟨b,o+off*sz,none⟩) len cap'):=by
 cases h with
 |cG _ _ h=>cases h
 |kk _ _ _ _ _ h=>exact .inl h
 |lR _ _ h hb=>exact .inr (.inl ⟨h,hb,rfl,rfl,rfl⟩)
 |mo _ _ _ b x bo rows h hb hl=>exact .inr (.inr (.inl ⟨rfl,b,x,bo,rows,h,hb,hl,rfl⟩))
 |ref _ _ _ _ b o cap cap' rows h hb hl hc jt=>exact .inr (.inr (.inr ⟨b,o,cap,cap',rows,h,hb,hl,hc,jt,rfl⟩))
def aw.PG{os:List Ob}{w:World}{Z:Nat->Prop}{blk:fX}{cs:List AV}{cv:Value}(h:aw os w Z blk (.agg cs) cv):
  ∃ a7,cv=.agg a7/\a7.size=cs.length/\∀ j x,cs[j]?=some x->aw os w Z blk x (a7.getD j Go.undef):=by
 cases h with
 |cG _ _ h=>cases h
 |agg _ a7 h1 h2=>exact⟨a7,rfl,h1,h2⟩
def aw.PH{os:List Ob}{w:World}{Z:Nat->Prop}{blk:fX}{cs:List AV}{cv:Value}(h:aw os w Z blk (.bu cs) cv):
  ∃ a7,cv=.tuple a7/\a7.size=cs.length/\∀ j x,cs[j]?=some x->aw os w Z blk x (a7.getD j Go.undef):=by
 cases h with
 |cG _ _ h=>cases h
 |bu _ a7 h1 h2=>exact⟨a7,rfl,h1,h2⟩
def aw.PV{os:List Ob}{w:World}{Z:Nat->Prop}{blk:fX}{f:FuncId}{cs:List AV}{cv:Value}(h:aw os w Z blk (.fn f cs) cv):
  ∃ a7,cv=.func (.func f) #[] a7/\a7.size=cs.length/\∀ j x,cs[j]?=some x->aw os w Z blk x (a7.getD j Go.undef):=by
 cases h with
 |cG _ _ h=>cases h
 |fn _ _ a7 h1 h2=>exact⟨a7,rfl,h1,h2⟩
def aw.PW{os:List Ob}{w:World}{Z:Nat->Prop}{blk:fX}{t:TypeId}{v:AV}{cv:Value}(h:aw os w Z blk (.gZ t v) cv):∃x,cv=.iface t x/\aw os w Z blk v x:=by
 cases h with
 |cG _ _ h=>cases h
 |gZ _ _ x h=>exact⟨x,rfl,h⟩
def gx.inv{w:World}{Z:Nat->Prop}{sz:Nat}{rows:List (List AV)}{cv:Value}(h:gx w Z (.tree sz rows) cv):
  (∃ a cap,rows=[]/\cv=.slice a 0 cap)\/∃ b o cap,∃ f:Nat->Nat->Value,cv=.slice (some ⟨b,o,none⟩) rows.length cap/\Z b/\(∀ row∈rows,row.length=sz)/\rows.length<=cap /\
   (∀ r c x,cellAt rows r c=some x->w.cell? ⟨b,o+(r*sz+c),none⟩=some (f r c))/\∀ r c x,cellAt rows r c=some x->gx w Z x (f r c):=by
 cases h with
 |nil _ cap a=>exact .inl ⟨a,cap,rfl,rfl⟩
 |tree _ _ b o cap f h1 h2 h3 h4 h5=>exact .inr ⟨b,o,cap,f,rfl,h1,h2,h3,h4,h5⟩
def gx.sub{w:World}{Z:Nat->Prop}{sz:Nat}{rows:List (List AV)}{b o cap cap':Nat}{f:Nat->Nat->Value}(hz:Z b)(hr:∀ row∈rows,row.length=sz)(hc:∀ r c x,cellAt rows r c=some x->w.cell? ⟨b,o+(r*sz+c),none⟩=some (f r c))(ht:∀ r c x,cellAt rows r c=some x->gx w Z x (f r c))(lo n:Nat)(hn:n<=cap')(_hcap:rows.length<=cap)(jh:lo+n<=rows.length):
  gx w Z (.tree sz ((rows.drop lo).take n)) (.slice (some ⟨b,o+lo*sz,none⟩) n cap'):=by
 have hlen:((rows.drop lo).take n).length=n:=NS;have vc:∀ r c x,cellAt ((rows.drop lo).take n) r c=some x->cellAt rows (lo+r) c=some x:=by
  intro r c x hx;simp only[cellAt,uZ,mI]at hx;split at hx
  ·exact hx
  ·simp at hx
 have:=gx.tree (w:=w) (Z:=Z) sz ((rows.drop lo).take n) b (o+lo*sz) cap' (λr c=>f (lo+r) c) hz (λrow h=>hr row (List.mem_of_mem_drop (List.mem_of_mem_take h))) Ix
  (λr c x hx=>by
   have h1:=hc _ _ _ (vc r c x hx);rw[fN]at h1;have e:o+(lo*sz+r*sz+c)=o+lo*sz+(r*sz+c):=Ix;rw[e]at h1;exact h1) (λr c x hx=>ht _ _ _ (vc r c x hx))
 rw[hlen]at this;exact this
def FC{o:Oper}{σ:St}{γ:Cx}{a:Act}{K:St->Prop}(h:bg σ γ)(ha:γ.tmps=a.tmps)(hd:∀ d,o.dst=some d->d<a.tmps.size){ob:Ob}{cur:Array Value}{t:TypeId}{cap:Nat}(bI:sF σ.aa γ.w γ.Z γ.blk 0 cap cur ob){v:AV}{cv:Value}(hv:aw (σ.aa++[ob]) (γ.w.alloc (.cells cur t)) γ.Z (c6 γ.blk σ.aa.length (some (γ.w.heap.size,0,cap))) v cv)(hK:K (({ σ with aa:=σ.aa++[ob] }:St).put o.dst v)){r:Result Next}(hr:r=.ok (.value cv) (γ.w.alloc (.cells cur t))):zm o σ γ a K r :=
 Bf (σ1:={ σ with aa:=σ.aa++[ob] }) (γ1:={ γ with w:=γ.w.alloc (.cells cur t),blk:=c6 γ.blk σ.aa.length (some (γ.w.heap.size,0,cap)) })
  (Fr.push (t:=t) (cur:=cur) ob rfl rfl rfl rfl) (h.push (t:=t) (cur:=cur) rfl bI) ha hd hv hK hr
def sH(ents:List (Value×Value)):(cR ents).toList=ents.mapIdx λi p=>(⟨p.1,p.2,i⟩:MapEntry):=by simp[cR]
def Jw(L:List (Value×Value))(p:Value×Value):(cR L).push ⟨p.1,p.2,L.length⟩=cR (L++[p]):=by
 apply Array.toList_inj.1;rw[Array.toList_push,sH,sH,List.mapIdx_append];simp
def FD(L:List (Value×Value))(i:Nat)(f:MapEntry->MapEntry)(p:Value×Value)(hf:∀ q,L[i]?=some q->f ⟨q.1,q.2,i⟩=⟨p.1,p.2,i⟩):(cR L).modify i f=cR (L.set i p):=by
 apply Array.ext_getElem?;intro j;rw[Array.getElem?_modify];simp only[cR,List.getElem?_toArray,List.getElem?_mapIdx,bY];by_cases h:i=j
 ·subst h;rw[if_pos rfl,if_pos rfl];cases hq:L[i]? with
  |none =>
   have:¬ i<L.length:=by
    have:=List.getElem?_eq_none_iff.1 hq;omega
   simp[this]
  |some q =>
   have:i<L.length:=(aR.1 hq).1;simp[this,hf q hq]
 ·rw[if_neg h,if_neg h]
def qn(ag:Nat)(f:Nat->Value)(L:List (List Int×AV)):(da ag f L).length=L.length:=by unfold da;simp
def ub(ag:Nat)(f:Nat->Value)(L:List (List Int×AV))(j:Nat):(da ag f L)[j]?=(L[j]?).map λp=>(kV ag p.1,f j):=by unfold da;simp
def zn{l:List Int}:∀ {L:List (List Int×AV)} {i j:Nat},ic l L i=some j->i<=j/\∃ v,L[j-i]?=some (l,v)
 |[],_,_,h=>by cases h
 |p::r,i,j,h=>by
  rw[ic]at h;split at h
  ·rename_i hp;cases h;exact⟨bb _,p.2,by rw[iT];simp[<- hp]⟩
  ·obtain⟨h1,v,h2⟩:=zn h;have e:j-i=(j-(i+1))+1:=Ix;exact⟨Ix,v,by rw[e,List.getElem?_cons_succ];exact h2⟩
def CP{σ:St}{γ:Cx}(h:bg σ γ){v:AV}{cv:Value}(hv:aw σ.aa γ.w γ.Z γ.blk v cv){id ag:Nat}{L:List (List Int×AV)}(hm:lK σ v=some (id,ag,L)):
  v=.du id/\σ.aa[id]?=some (.mp ag L)/\∃ b,∃ f:Nat->Value,γ.blk id=some (b,0,0)/\cv=.map (some b)/\γ.w.heap[b]?=some (.map (cR (da ag f L)) L.length)/\(∀ p∈L,p.1.length=jZ ag)/\∀ (j:Nat) p,L[j]?=some p->aw σ.aa γ.w γ.Z γ.blk p.2 (f j):=by
 unfold lK at hm;split at hm
 ·rename_i nZ;split at hm
  ·rename_i iJ L' ho;simp only[cm.injEq,Prod.mk.injEq]at hm;obtain⟨rfl,rfl,rfl⟩:=hm;obtain⟨b,f,h1,h2,h3,h4⟩:=h.dF _ _ ho;cases hv with
   |cG _ _ h=>cases h
   |p' _ _ h' _=>rw[ho]at h';simp at h'
   |du _ b' _ _ h' hb =>
    rw[h1]at hb;simp only[cm.injEq,Prod.mk.injEq,and_true]at hb;subst hb;exact⟨rfl,ho,b,f,h1,rfl,h2,h3,h4⟩
  ·cases hm
 ·cases hm
def Jx{os:List Ob}{w:World}{Z:Nat->Prop}{blk:fX}{v:AV}{cv:Value}(hv:aw os w Z blk v cv){ag:Nat}{l:List Int}(hk:keyOf v=some (ag,l))(hl:l.length=jZ ag):cv=kV ag l:=by
 unfold keyOf at hk;split at hk
 ·simp only[cm.injEq,Prod.mk.injEq]at hk;obtain⟨rfl,rfl⟩:=hk;rw[hv.cz];rfl
 ·rename_i cs;cases hi:oY cs with
  |none=>simp[hi]at hk
  |some as =>
   simp only[hi,gY,cm.injEq,Prod.mk.injEq]at hk;obtain⟨rfl,rfl⟩:=hk;have:=Jy hv hi;rw[this];unfold jZ at hl;unfold kV;by_cases h0:as.length=0
   ·rw[if_pos h0]at hl;omega
   ·rw[if_neg h0]
 ·cases hk
def ade{t:TypeId}{ag:Nat}(uc:jb P t ag){z:Value}{w:World}(hz:∀ kt et,P.underlying t=some (.map kt et)->(zeroValue et).run P w=.ok z w){b:Nat}{f:Nat->Value}{L:List (List Int×AV)}(hb:w.heap[b]?=some (.map (cR (da ag f L)) L.length))(hL:∀ p∈L,p.1.length=jZ ag){l:List Int}(hl:l.length=jZ ag):
  (Instr.lookup t (.map (some b)) (kV ag l) false).run P w=.ok (((ic l L 0).map f).getD z) w:=by
 obtain⟨kt,et,ht,hk⟩:=uc;obtain⟨h1,h2,h3⟩:=hk l hl;simp only[Instr.lookup,Sem.run_bind,run_underlying ht,MapKept.run_getObj_map hb,h1,h3 f L w hL,Result.andThen_ok,Sem.run_pure];cases h:ic l L 0 with
 |none=>simp[hz kt et ht]
 |some q=>simp
def adf{t:TypeId}{ag:Nat}(uc:jb P t ag){w:World}{b:Nat}{f:Nat->Value}{L:List (List Int×AV)}(hb:w.heap[b]?=some (.map (cR (da ag f L)) L.length))(hL:∀ p∈L,p.1.length=jZ ag){l:List Int}(hl:l.length=jZ ag)(v:AV)(cv:Value):
  ∃ f':Nat->Value,(Instr.mapUpdate t (.map (some b)) (kV ag l) cv).run P w=.ok () { w with heap:=w.heap.setIfInBounds b (.map (cR (da ag f' (eT l v L))) (eT l v L).length) } /\
   (∀ p∈eT l v L,p.1.length=jZ ag)/\∀ (j:Nat) p,(eT l v L)[j]?=some p->(p.2=v/\f' j=cv)\/(L[j]?=some p/\f' j=f j):=by
 obtain⟨kt,et,ht,hk⟩:=uc;obtain⟨h1,h2,h3⟩:=hk l hl;simp only[Instr.mapUpdate,Sem.run_bind,run_underlying ht,MapKept.run_getObj_map hb,h1,h3 f L w hL,Result.andThen_ok];unfold eT;cases h:ic l L 0 with
 |none =>
  refine⟨λj=>if j=L.length then cv else f j,?_,λp hp=>?_,λj p hp=>?_⟩
  ·have e:=Jw (da ag f L) (kV ag l,cv);rw[qn]at e;have e2:da ag f L++[(kV ag l,cv)]=da ag (λj=>if j=L.length then cv else f j) (L++[(l,v)]):=by
    unfold da;rw[List.mapIdx_append];congr 1
    ·apply List.ext_getElem
     ·simp
     ·intro j h5 h6;have:j<L.length:=by simpa using h5
      simp[ns this]
    ·simp
   simp only[pR,MapKept.run_setObj_map _ hb,e,e2,bF,AL]
  ·rcases cC.1 hp with hp|hp
   ·exact hL p hp
   ·rw[cU.1 hp];exact hl
  ·rcases dE j L.length with hj|hj
   ·rw[eB hj]at hp;exact .inr ⟨hp,by dsimp only;rw[if_neg Ix]⟩
   ·rw[gX hj]at hp;have:j=L.length:=by
     have:=(aR.1 hp).1;simp at this;omega
    subst this;simp only[iT,uW,cm.injEq]at hp;subst hp;exact .inl ⟨rfl,by dsimp only;rw[if_pos rfl]⟩
 |some q =>
  obtain⟨_,u,hu⟩:=zn h;rw[u3]at hu;have hq:=(aR.1 hu).1;refine⟨λj=>if j=q then cv else f j,?_,λp hp=>?_,λj p hp=>?_⟩
  ·have CQ:(((cR (da ag f L))[q]?).map (·.key)).getD (kV ag l)=kV ag l:=by
    simp[cR,ub,hu]
   have e:=FD (da ag f L) q (λe=>{ e with key:=kV ag l,val:=cv }) (kV ag l,cv) (λ_ _=>rfl);have e2:(da ag f L).set q (kV ag l,cv)=da ag (λj=>if j=q then cv else f j) (L.set q (l,v)):=by
    apply qS;intro j;rw[bY,ub,ub,bY,qn];by_cases hj:q=j
    ·subst hj;simp[hq]
    ·rw[if_neg hj,if_neg hj,if_neg (Ne.symm hj)]
   simp only[gY,CQ,h2,Result.andThen_ok,MapKept.run_setObj_map _ hb,Sem.run_bind];rw[e,e2,bK]
  ·rcases qU hp with hp|hp
   ·exact hL p hp
   ·rw[hp];exact hl
  ·simp only[bY]at hp;by_cases hj:q=j
   ·subst hj;rw[if_pos rfl,if_pos hq]at hp;cases hp;exact .inl ⟨rfl,by dsimp only;rw[if_pos rfl]⟩
   ·rw[if_neg hj]at hp;exact .inr ⟨hp,by dsimp only;rw[if_neg (Ne.symm hj)]⟩
def bg.wrR{σ:St}{γ:Cx}(h:bg σ γ){id:Nat}{ob ob':Ob}(ho:σ.aa[id]?=some ob)(hg:ob≠.gone)(jK:ob.dT ob'){b o cap:Nat}(hb:γ.blk id=some (b,o,cap)){w':World}(mu:∀ k,k≠b->w'.heap[k]?=γ.w.heap[k]?):∀ v cv,aw σ.aa γ.w γ.Z γ.blk v cv->aw (σ.aa.set id ob') w' γ.Z γ.blk v cv:=by
 have bO:id<σ.aa.length:=(aR.1 ho).1;have j3:Live σ.aa id:=⟨ob,ho,hg⟩;exact λv cv hv =>
  hv.mono (λz hz=>⟨hz,mu z (λe=>h.nz b ⟨id,o,cap,j3,hb⟩ (e▸hz))⟩) (λi x hx=>by
   rw[bY];by_cases mS:id=i
   ·subst mS;rw[ho]at hx;simp at hx;subst hx;right;refine⟨rfl,ob',by simp[bO],jK⟩
   ·rw[if_neg mS];by_cases cD:x=.gone
    ·subst cD;exact .inl hx
    ·exact .inr ⟨rfl,x,hx,Ob.jg cD⟩)
def adh{t:TypeId}{ag:Nat}(uc:jb P t ag){z:Value}{w:World}(hz:∀ kt et,P.underlying t=some (.map kt et)->(zeroValue et).run P w=.ok z w){b:Nat}{f:Nat->Value}{L:List (List Int×AV)}(hb:w.heap[b]?=some (.map (cR (da ag f L)) L.length))(hL:∀ p∈L,p.1.length=jZ ag){l:List Int}(hl:l.length=jZ ag):
  ∃ f':Nat->Value,(Instr.mapEntry t (.map (some b)) (kV ag l)).run P w=.ok (.tuple #[((ic l L 0).map f).getD z,.int .i64 (AY l L:Nat)]) { w with heap:=w.heap.setIfInBounds b (.map (cR (da ag f' (eT l ((mn l L).getD (.lit z)) L))) (eT l ((mn l L).getD (.lit z)) L).length) } /\
   (∀ p∈eT l ((mn l L).getD (.lit z)) L,p.1.length=jZ ag)/\∀ (j:Nat) p,(eT l ((mn l L).getD (.lit z)) L)[j]?=some p->(p.2=(mn l L).getD (.lit z)/\f' j=((ic l L 0).map f).getD z)\/(L[j]?=some p/\f' j=f j):=by
 obtain⟨kt,et,ht,hk⟩:=uc;obtain⟨h1,h2,h3⟩:=hk l hl;generalize hv:(mn l L).getD (.lit z)=v;simp only[Instr.mapEntry,Sem.run_bind,run_underlying ht,MapKept.run_getObj_map hb,h1,h3 f L w hL,Result.andThen_ok];unfold eT AY;cases h:ic l L 0 with
 |none =>
  refine⟨λj=>if j=L.length then z else f j,?_,λp hp=>?_,λj p hp=>?_⟩
  ·have e:=Jw (da ag f L) (kV ag l,z);rw[qn]at e;have e2:da ag f L++[(kV ag l,z)]=da ag (λj=>if j=L.length then z else f j) (L++[(l,v)]):=by
    unfold da;rw[List.mapIdx_append];congr 1
    ·apply List.ext_getElem
     ·simp
     ·intro j h5 h6;have:j<L.length:=by simpa using h5
      simp[ns this]
    ·simp
   simp only[pR,hz kt et ht,Result.andThen_ok,MapKept.run_setObj_map _ hb,Sem.run_bind,e,e2,bF,AL,Sem.run_pure,Option.getD_none,goInt]
  ·rcases cC.1 hp with hp|hp
   ·exact hL p hp
   ·rw[cU.1 hp];exact hl
  ·rcases dE j L.length with hj|hj
   ·rw[eB hj]at hp;exact .inr ⟨hp,by dsimp only;rw[if_neg Ix]⟩
   ·rw[gX hj]at hp;have:j=L.length:=by
     have:=(aR.1 hp).1;simp at this;omega
    subst this;simp only[iT,uW,cm.injEq]at hp;subst hp;exact .inl ⟨rfl,by dsimp only;rw[if_pos rfl];rfl⟩
 |some q =>
  obtain⟨_,u,hu⟩:=zn h;rw[u3]at hu;have hq:=(aR.1 hu).1;refine⟨f,?_,λp hp=>?_,λj p hp=>?_⟩
  ·have CQ:(((cR (da ag f L))[q]?).map (·.key)).getD (kV ag l)=kV ag l:=by
    simp[cR,ub,hu]
   have adi:(((cR (da ag f L))[q]?).map (λe=>(e.born:Int))).getD 0=(q:Int):=by
    simp[cR,ub,hu]
   have e:=FD (da ag f L) q (λe=>{ e with key:=kV ag l }) (kV ag l,f q) (λx hx=>by
    rw[ub,hu]at hx;cases hx;rfl)
   have e2:(da ag f L).set q (kV ag l,f q)=da ag f (L.set q (l,v)):=by
    apply qS;intro j;rw[bY,ub,ub,bY,qn];by_cases hj:q=j
    ·subst hj;simp[hq]
    ·rw[if_neg hj,if_neg hj]
   simp only[gY,CQ,h2,Result.andThen_ok,MapKept.run_setObj_map _ hb,Sem.run_bind,Sem.run_pure,adi,pQ,goInt];rw[e,e2,bK]
  ·rcases qU hp with hp|hp
   ·exact hL p hp
   ·rw[hp];exact hl
  ·simp only[bY]at hp;by_cases hj:q=j
   ·subst hj;rw[if_pos rfl,if_pos hq]at hp;cases hp;exact .inl ⟨rfl,rfl⟩
   ·rw[if_neg hj]at hp;exact .inr ⟨hp,rfl⟩
def adj(ents:List (Value×Value)){n:Nat}(hn:n<ents.length):(cR ents).findIdx? (λe=>(e.born:Int)==(n:Int))=some n:=by
 unfold cR;rw[List.findIdx?_toArray,List.findIdx?_eq_some_iff_getElem];refine⟨by simpa using hn,Iy,λj hj=>?_⟩;simp only[List.getElem_mapIdx];simp;omega
def adk{t:TypeId}{ag:Nat}{w:World}{b:Nat}{f:Nat->Value}{L:List (List Int×AV)}(hb:w.heap[b]?=some (.map (cR (da ag f L)) L.length)){n:Nat}(hn:n<L.length)(v:AV)(cv:Value):
  (Instr.entryStore t (.map (some b)) (.int .i64 (n:Nat)) cv).run P w=.ok () { w with heap:=w.heap.setIfInBounds b (.map (cR (da ag (λj=>if j=n then cv else f j) (pY n v L))) (pY n v L).length) }:=by
 have hf:=adj (da ag f L) (n:=n) (by rw[qn];exact hn);have e:=FD (da ag f L) n (λe=>{ e with val:=cv }) (kV ag (L.getD n ([],.undef)).1,cv) (λx hx=>by
  rw[ub,bT hn]at hx;cases hx;rw[aB,bT hn];rfl)
 have e2:(da ag f L).set n (kV ag (L.getD n ([],.undef)).1,cv)=da ag (λj=>if j=n then cv else f j) (pY n v L):=by
  unfold pY;apply qS;intro j;rw[bY,ub,ub,bY,qn];by_cases hj:n=j
  ·subst hj;simp[hn]
  ·rw[if_neg hj,if_neg hj,if_neg (Ne.symm hj)]
 simp only[Instr.entryStore,Sem.run_bind,MapKept.run_getObj_map hb,asInt,asIntOf,Sem.run_pure,Result.andThen_ok,hf,MapKept.run_setObj_map _ hb];rw[e,e2];simp[pY]
def Jz{P:Program}{t:TypeId}(h:(ty P t).kind=8):∃kt,P.underlying t=some (.map kt (ty P t).elem):=by
 unfold ty at h ⊢;cases hi:P.info? t<;>cases hd:P.underlying t<;>simp[hi,hd]at h ⊢;rename_i i d;cases d<;>simp at h ⊢
def acS{o:Oper}{σ:St}{K:St->Prop}(hW:bW P o σ K){γ:Cx}(h:bg σ γ){a:Act}(ha:γ.tmps=a.tmps)(hd:∀ d,o.dst=some d->d<a.tmps.size):
  zm o σ γ a K ((execOp a.eval o).run P γ.w):=by
 obtain⟨dst,op,type,pos,after,guard⟩:=o;unfold bW at hW;have E:=λx=>sv h ha x;cases op
 case move x=>exact dj h ha hd (E x) hW (by simp[execOp])
 case assign x=>exact dj h ha hd (E x) hW (by simp[execOp])
 case pick c x y =>
  simp only at hW;have hc:=E c;split at hW
  ·rename_i t he;rw[he]at hc;have aP:=hc.cz;refine dj h ha hd (v:=fP t (ev σ x) (ev σ y)) (cv:=if t then a.eval x else a.eval y) ?_ hW (by simp[execOp,aP,asBool]);unfold fP;split
   ·rename_i x' y' h1 h2;have hx:=E x;have hy:=E y;rw[h1]at hx;rw[h2]at hy;rw[hx.cz,hy.cz];cases t<;>exact .lit _
   ·cases t
    ·exact E y
    ·exact E x
  ·exact hW.elim
 case alloc e =>
  simp only at hW;obtain⟨ba,hW⟩:=hW;split at hW
  ·rename_i z hz;obtain⟨v,hv,hvc⟩:=P8 ba hz γ.w;obtain⟨l1,l2⟩:=JA (os:=σ.aa) (w:=γ.w) (Z:=γ.Z) (blk:=γ.blk) z;refine FC (ob:=.var (z.map .lit)) (v:=.ptr σ.aa.length 0 0) (cv:=.pointer (some ⟨γ.w.heap.size,0,none⟩)) (cap:=0) (cur:=z.toArray) (t:=e) h ha hd ⟨rfl,Iy,l2⟩ ?_ hW ?_
   ·exact .nA _ 0 _ 0 _ (EY ..) (by simp[c6])
   ·simp[execOp,Instr.alloc,hv,newVar,newRow,hvc]
  ·exact hW.elim
 case box e x =>
  simp only at hW;obtain⟨hs,hK⟩:=hW;obtain⟨c1,c2,c3⟩:=JB (E x) hs;refine FC (ob:=.var (cellsOf (ev σ x))) (cv:=.pointer (some ⟨γ.w.heap.size,0,none⟩)) (cap:=0) (cur:=(a.eval x).cells) (t:=e) h ha hd ⟨rfl,c1,c2⟩ ?_ hK ?_
  ·exact .nA _ 0 _ 0 _ (EY ..) (by simp[c6])
  ·simp[execOp,Instr.box,newVar,newRow]
 case build t parts =>
  simp only at hW;split at hW
  ·rename_i z hk hz;split at hW
   ·rename_i cs hf;obtain⟨⟨hs,hp⟩,hK⟩:=hW;obtain⟨cur,h1,h2⟩:=adm h ha hk hz hf hs hp;exact dj h ha hd h2 hK (by simp only[execOp,Sem.run_bind,h1,Result.andThen_ok,Sem.run_pure])
   ·exact hW.elim
  ·rename_i z hk hz;split at hW
   ·rename_i cs hf;obtain⟨⟨hs,hp⟩,hK⟩:=hW;obtain⟨cur,h1,h2⟩:=adn h ha hk hz hf hs hp;exact dj h ha hd h2 hK (by simp only[execOp,Sem.run_bind,h1,Result.andThen_ok,Sem.run_pure])
   ·exact hW.elim
  ·exact hW.elim
 case buildSlice t len parts =>
  simp only at hW;split at hW
  ·rename_i z hk hz;split at hW
   ·rename_i cs hf;obtain⟨⟨dJ,h0,mT,ado,hs⟩,hK⟩:=hW;have ht:=ud hk;obtain⟨i,d,hi,FE,ue,_,hzero⟩:=uf dJ;obtain⟨zv,hzr,je⟩:=P8 dJ hz γ.w;have FF:0<z.length:=by rw[mT];exact h0
    obtain⟨hl,hr⟩:=JC h ha parts;obtain⟨cur,f1,f2⟩:=FG (σ:=σ) (γ:=γ) _ _ _ _ cs hl hr (λp hp=>by
     simp only[List.mem_map]at hp;obtain⟨q,hq,rfl⟩:=hp;rw[List.all_eq_true]at hs;exact hs q hq) (JD z len (len*(ty P (ty P t).elem).size) (by rw[mT]) FF) hf
    have alQ:cs.length=len*(ty P (ty P t).elem).size:=by
     have:=JD (os:=σ.aa) (w:=γ.w) (Z:=γ.Z) (blk:=γ.blk) z len (len*(ty P (ty P t).elem).size) (by rw[mT]) FF;have h1:∀ (parts:List (Nat×AV)) (cs q8:List AV) (place:Nat->Option (Nat×Nat)),mh place cs parts=some q8->q8.length=cs.length:=by
      intro parts
      induction parts with
      |nil=>intro cs q8 place h;simp[mh]at h;rw[h]
      |cons p parts ih =>
       intro cs q8 place h;obtain⟨i,v⟩:=p;simp only[mh]at h;split at h
       ·simp at h
       ·split at h
        ·rw[ih _ _ _ h,JE]
        ·simp at h
     rw[h1 _ _ _ _ hf,<- this.1];simp
    have hmul:len*(ty P (ty P t).elem).size<=16777216:=ado
    have hlen:len<=maxLen:=by
     have:len*1<=len*(ty P (ty P t).elem).size:=Nat.mul_le_mul_left _ h0;unfold maxLen;omega
    have eG:(Instr.buildSlice t len (parts.map λ(i,x)=>(i,a.eval x))).run P γ.w=.ok (.slice (some ⟨γ.w.heap.size,0,none⟩) len len) (γ.w.alloc (.cells cur (ty P t).elem)):=by
     have dC:¬ (len*(ty P (ty P t).elem).size > 2^24):=Ix;by_cases hl0:len*(ty P (ty P t).elem).size=0
     ·rw[hl0]at f1;have e0:((Iw 0).map λx=>(#[]:Array Value)[x%(#[]:Array Value).size]!)=((Iw 0).map (z.toArray[· % z.toArray.size]!)):=Iy;simp only[Instr.buildSlice,Sem.run_bind,run_underlying ht,Result.andThen_ok,run_sizeOf dJ,if_false,hl0,if_true,Sem.run_pure,Nat.not_lt_zero,gt_iff_lt];rw[e0,f1];simp[newRow]
     simp only[Instr.buildSlice,Sem.run_bind,run_underlying ht,Result.andThen_ok,run_sizeOf dJ,dC,if_false,hl0,hzr,Sem.run_pure,je];rw[show((Iw (len*(ty P (ty P t).elem).size)).map λx=>z.toArray[x%z.toArray.size]!)=((Iw (len*(ty P (ty P t).elem).size)).map (z.toArray[· % z.toArray.size]!)) from rfl,f1];simp[newRow]
    refine FC (ob:=.arr (ty P (ty P t).elem).size (mj (ty P (ty P t).elem).size len cs)) (cv:=.slice (some ⟨γ.w.heap.size,0,none⟩) len len) (cap:=len) (cur:=cur) (t:=(ty P t).elem) h ha hd ?_ ?_ hK ?_
    ·refine⟨h0,P9 _ _ _ Ix,by rw[f2.1];omega,by rw[JF];omega,hlen,?_⟩;intro r c v hv;rw[gm];exact f2.2 _ _ (Qa _ _ _ _ _ _ hv)
    ·have:=aw.ref (os:=σ.aa++[.arr (ty P (ty P t).elem).size (mj (ty P (ty P t).elem).size len cs)]) (w:=γ.w.alloc (.cells cur (ty P t).elem)) (Z:=γ.Z) (blk:=c6 γ.blk σ.aa.length (some (γ.w.heap.size,0,len)))
      σ.aa.length (ty P (ty P t).elem).size 0 len γ.w.heap.size 0 len len _ (by simp;rfl) (by simp[c6]) (by rw[JF];omega) Ix (bb _)
     simpa using this
    ·simp only[execOp,Sem.run_bind,eG,Result.andThen_ok,Sem.run_pure]
   ·exact hW.elim
  ·exact hW.elim
 case load t x =>
  simp only at hW;obtain⟨hk,hW⟩:=hW;have hx:=E x;split at hW
  ·rename_i id r c he;rw[he]at hx;split at hW
   ·rename_i row bN;obtain⟨v,pf,h1,h2,h3⟩:=Jm h hk hx bN hW;exact dj h ha hd h2 h3 (by simp only[execOp,Sem.run_bind,h1,Result.andThen_ok,Sem.run_pure])
   ·exact hW.elim
  ·rename_i cells he;rw[he]at hx;obtain⟨v,pf,h1,h2,h3⟩:=adq h hk hx hW;exact dj h ha hd h2 h3 (by simp only[execOp,Sem.run_bind,h1,Result.andThen_ok,Sem.run_pure])
  ·exact hW.elim
 case store t x y =>
  simp only at hW;obtain⟨hk,hW⟩:=hW;have hx:=E x;split at hW
  ·rename_i id r c he;rw[he]at hx;split at hW
   ·rename_i row bN;obtain⟨hc,hK⟩:=hW;obtain⟨w',h1,h2,h3⟩:=adr h hk hx bN (E y) hc;exact JG h3 h2 ha hd hK (by simp only[execOp,Sem.run_bind,h1,Result.andThen_ok,Sem.run_pure])
   ·exact hW.elim
  ·exact hW.elim
 case nilCheck x =>
  simp only at hW;have hx:=E x;split at hW
  ·rename_i id r c he;rw[he]at hx;cases ho:σ.aa[id]? with
   |none=>simp[ho]at hW
   |some ob =>
    have bL:ob≠.gone/\K (σ.put dst (.ptr id r c)):=by cases ob<;>simp[ho]at hW ⊢<;>exact hW
    have aP :∃ad,a.eval x=.pointer (some ad):=by
     rcases hx.Jt with h|⟨b,cap,cells,_,_,_,h⟩|⟨_,b,o,cap,rows,_,_,h⟩
     ·rw[ho]at h;simp at h;exact absurd h bL.1
     ·exact⟨_,h⟩
     ·exact⟨_,h⟩
    obtain⟨ad,aP⟩:=aP;exact dj h ha hd hx bL.2 (by simp[execOp,aP])
  ·rename_i cells he;rw[he]at hx;have aP :∃ad,a.eval x=.pointer (some ad):=by
    obtain⟨b,o,f,h,_⟩:=hx.Ju;exact⟨_,h⟩
   obtain⟨ad,aP⟩:=aP;exact dj h ha hd hx hW (by simp[execOp,aP])
  ·exact hW.elim
 case binOp op t x y yt =>
  simp only at hW;have hx:=E x;have hy:=E y;split at hW
  ·rename_i k p k' q he hf;rw[he]at hx;rw[hf]at hy;obtain⟨rfl,hW⟩:=hW;obtain⟨v,h1,h2⟩:=ads (P:=P) hW t γ.w;refine dj h ha hd (.lit v) h2 ?_;simp[execOp,hx.cz,hy.cz,eqGuard,h1]
  ·rename_i p q he hf;rw[he]at hx;rw[hf]at hy;obtain⟨hk,hW⟩:=hW;have ht:=adt hk;split at hW
   ·refine dj h ha hd (.lit _) hW ?_;simp[execOp,hx.cz,hy.cz,eqGuard,run_eql_bool γ.w t p q ht]
   ·refine dj h ha hd (.lit _) hW ?_;simp[execOp,hx.cz,hy.cz,eqGuard,run_neq_bool γ.w t p q ht,bne]
   ·exact hW.elim
  ·rename_i sz rows he hf;rw[he]at hx;rw[hf]at hy;obtain⟨⟨hk,hr⟩,hW⟩:=hW;have ht:=ud hk;rcases hx.zf.inv with⟨ad,cap,rfl,aP⟩|⟨b,o,cap,f,aP,_⟩
   ·exact absurd hr Iy
   split at hW
   ·refine dj h ha hd (.lit _) hW ?_;simp[execOp,aP,hy.cz,eqGuard,ada γ.w t _ _ _ ht]
   ·refine dj h ha hd (.lit _) hW ?_;simp[execOp,aP,hy.cz,eqGuard,adb γ.w t _ _ _ ht]
   ·exact hW.elim
  ·rename_i ad n c he hf;rw[he]at hx;rw[hf]at hy;obtain⟨hk,hW⟩:=hW;have ht:=ud hk;split at hW
   ·refine dj h ha hd (.lit _) hW ?_;simp[execOp,hx.cz,hy.cz,eqGuard,ac9 γ.w t _ _ _ _ ht]
   ·refine dj h ha hd (.lit _) hW ?_;simp[execOp,hx.cz,hy.cz,eqGuard,ac' γ.w t _ _ _ _ ht]
   ·exact hW.elim
  ·rename_i cs ds he hf;rw[he]at hx;rw[hf]at hy;split at hW
   ·rename_i as bs CR JH;obtain⟨⟨hq,hlen,Bg⟩,hW⟩:=hW;have Qd:=Jy hx CR;have zo:=Jy hy JH;have heq:=hq γ.w as bs rfl hlen;split at hW
    ·refine dj h ha hd (.lit _) hW ?_;simp only[execOp,Qd,zo,Sem.run_bind,run_eqGuard_agg γ.w _ _ _ _ _ _ Bg,run_eql_struct,heq,Result.andThen_ok,Sem.run_pure]
    ·refine dj h ha hd (.lit _) hW ?_;simp only[execOp,Qd,zo,Sem.run_bind,run_eqGuard_agg γ.w _ _ _ _ _ _ Bg,run_neq_struct,heq,Result.andThen_ok,Sem.run_pure]
    ·exact hW.elim
   ·exact hW.elim
  ·exact hW.elim
 case unOp op t x =>
  simp only at hW;have hx:=E x;split at hW
  ·rename_i b he;rw[he]at hx;exact dj h ha hd (.lit _) hW (by simp[execOp,hx.cz,Op.unary])
  ·rename_i k n he;rw[he]at hx;unfold tQ at hW;split at hW
   ·exact dj h ha hd (.lit _) hW (by simp[execOp,hx.cz,Op.unary,Op.intArith])
   ·exact dj h ha hd (.lit _) hW.2 (by simp[execOp,hx.cz,Op.unary,Op.intArith,x7 hW.1])
  ·exact hW.elim
 case makeMap t r =>
  simp only at hW;obtain⟨⟨rfl,hk⟩,hK⟩:=hW;refine Bf (σ1:={ σ with aa:=σ.aa++[.mp (y0 P t) []] }) (γ1:={ γ with w:=γ.w.alloc (.map #[] 0),blk:=c6 γ.blk σ.aa.length (some (γ.w.heap.size,0,0)) })
   (Fr.CS (cap:=0) _ rfl rfl rfl rfl) (h.CS (cap:=0) rfl λgp w' jI hR hb hx=>⟨_,λ_=>Go.undef,hb,hx,Iy,Iy⟩) ha hd
   (v:=.du σ.aa.length) (cv:=.map (some γ.w.heap.size)) (.du _ _ _ _ (EY ..) (by simp[c6])) hK ?_
  simp[execOp,Instr.makeMap,newObj,Sem.run]
 case lookup t x i ok =>
  simp only at hW;split at hW
  ·rename_i ag l id iJ L z eV nD nE;obtain⟨⟨uc,rfl,hl,FH,rfl⟩,hK⟩:=hW;obtain⟨kt,ht⟩:=Jz FH;obtain⟨_,ho,b,f,hb,aP,iK,hL,lU⟩:=CP h (E x) nD;have CT:=Jx (E i) eV hl;have hz:∀ CU zq,P.underlying t=some (.map CU zq)->(zeroValue zq).run P γ.w=.ok z γ.w:=by
    intro CU zq h';rw[ht]at h';cases h';unfold zeroV at nE;split at nE
    ·rename_i ii hi;simp[zeroValue,typeInfo,hi,nE]
    ·cases nE
   have eG:=ade (P:=P) uc hz iK hL hl;refine dj (cv:=((ic l L 0).map f).getD z) h ha hd ?_ hK (by simp only[execOp,aP,CT,Sem.run_bind,eG,Result.andThen_ok,Sem.run_pure]);unfold mn;cases hf:ic l L 0 with
   |none=>exact .lit z
   |some q =>
    obtain⟨_,u,hu⟩:=zn hf;rw[u3]at hu;simp only[rU,hu,gY,pQ];exact lU q _ hu
  ·exact hW.elim
 case mapUpdate t m k x =>
  simp only at hW;split at hW
  ·rename_i ag l id iJ L eV nD;obtain⟨⟨uc,rfl,hl⟩,hK⟩:=hW;obtain⟨_,ho,b,f,hb,aP,iK,hL,lU⟩:=CP h (E m) nD;have CT:=Jx (E k) eV hl;obtain⟨f',eG,JI,iU⟩:=adf (P:=P) uc iK hL hl (ev σ x) (a.eval x);have pg:b<γ.w.heap.size:=(mg.1 iK).1;refine JG (σ1:={ σ with aa:=σ.aa.set id (.mp iJ (eT l (ev σ x) L)) }) (γ1:={ γ with w:={ γ.w with heap:=γ.w.heap.setIfInBounds b (.map (cR (da iJ f' (eT l (ev σ x) L))) (eT l (ev σ x) L).length) } })
    (Fr.write (.mp iJ (eT l (ev σ x) L)) ho Iy rfl hb (λk hk=>by simp[tM (Ne.symm hk)]) Iy rfl rfl rfl)
    (h.FI (ob':=.mp iJ (eT l (ev σ x) L)) ho Iy rfl hb (λk hk=>by simp[tM (Ne.symm hk)]) Iy λgp hR=>⟨b,f',hb,by simp[pg],JI,λj p hp=>?_⟩) ha hd hK ?_
   ·rcases iU j p hp with⟨h1,h2⟩|⟨h1,h2⟩
    ·rw[h1,h2];exact hR _ _ (E x)
    ·rw[h2];exact hR _ _ (lU j p h1)
   ·simp only[execOp,aP,CT,Sem.run_bind,eG,Result.andThen_ok,Sem.run_pure]
  ·exact hW.elim
 case mapEntry t m k =>
  simp only at hW;split at hW
  ·rename_i ag l id iJ L z eV nD nE;obtain⟨⟨uc,rfl,hl,FH⟩,hK⟩:=hW;obtain⟨kt,ht⟩:=Jz FH;obtain⟨_,ho,b,f,hb,aP,iK,hL,lU⟩:=CP h (E m) nD;have CT:=Jx (E k) eV hl;have hz:∀ CU zq,P.underlying t=some (.map CU zq)->(zeroValue zq).run P γ.w=.ok z γ.w:=by
    intro CU zq h';rw[ht]at h';cases h';unfold zeroV at nE;split at nE
    ·rename_i ii hi;simp[zeroValue,typeInfo,hi,nE]
    ·cases nE
   obtain⟨f',eG,JI,iU⟩:=adh (P:=P) uc hz iK hL hl;have pg:b<γ.w.heap.size:=(mg.1 iK).1;have hold:aw σ.aa γ.w γ.Z γ.blk ((mn l L).getD (.lit z)) (((ic l L 0).map f).getD z):=by
    unfold mn;cases hf:ic l L 0 with
    |none=>exact .lit z
    |some q =>
     obtain⟨_,u,hu⟩:=zn hf;rw[u3]at hu;simp only[rU,hu,gY,pQ];exact lU q _ hu
   generalize (mn l L).getD (.lit z)=v at *;generalize ((ic l L 0).map f).getD z=cv at *;have hR0:∀ x y,aw σ.aa γ.w γ.Z γ.blk x y->aw (σ.aa.set id (.mp iJ (eT l v L))) { γ.w with heap:=γ.w.heap.setIfInBounds b (.map (cR (da iJ f' (eT l v L))) (eT l v L).length) } γ.Z γ.blk x y :=
    h.wrR (ob':=.mp iJ (eT l v L)) ho Iy rfl hb (λk hk=>by simp[tM (Ne.symm hk)])
   refine Bf (σ1:={ σ with aa:=σ.aa.set id (.mp iJ (eT l v L)) }) (γ1:={ γ with w:={ γ.w with heap:=γ.w.heap.setIfInBounds b (.map (cR (da iJ f' (eT l v L))) (eT l v L).length) } })
    (Fr.write (.mp iJ (eT l v L)) ho Iy rfl hb (λk hk=>by simp[tM (Ne.symm hk)]) Iy rfl rfl rfl)
    (h.FI (ob':=.mp iJ (eT l v L)) ho Iy rfl hb (λk hk=>by simp[tM (Ne.symm hk)]) Iy λgp hR=>⟨b,f',hb,by simp[pg],JI,λj p hp=>?_⟩) ha hd
    (v:=.bu [v,N0 (AY l L:Nat)]) (cv:=.tuple #[cv,.int .i64 (AY l L:Nat)]) (.bu _ _ rfl λj x hx=>?_) hK ?_
   ·rcases iU j p hp with⟨h1,h2⟩|⟨h1,h2⟩
    ·rw[h1,h2];exact hR _ _ hold
    ·rw[h2];exact hR _ _ (lU j p h1)
   ·match j,hx with
    |0,hx=>cases hx;exact hR0 _ _ hold
    |1,hx=>cases hx;exact .lit _
   ·simp only[execOp,aP,CT,Sem.run_bind,eG,Result.andThen_ok,Sem.run_pure]
  ·exact hW.elim
 case entryStore t m s x =>
  simp only at hW;split at hW
  ·rename_i n id ag L hs nD;obtain⟨⟨lh,lS⟩,hK⟩:=hW;obtain⟨_,ho,b,f,hb,aP,iK,hL,lU⟩:=CP h (E m) nD;have Qe:=E s;rw[hs]at Qe;have k8:=Qe.cz;have hn:n=((n.toNat:Nat):Int):=Ix;have eG:=adk (P:=P) (t:=t) iK (n:=n.toNat) Ix (ev σ x) (a.eval x);rw[<- hn]at eG;have pg:b<γ.w.heap.size:=(mg.1 iK).1;refine JG (σ1:={ σ with aa:=σ.aa.set id (.mp ag (pY n.toNat (ev σ x) L)) }) (γ1:={ γ with w:={ γ.w with heap:=γ.w.heap.setIfInBounds b (.map (cR (da ag (λj=>if j=n.toNat then a.eval x else f j) (pY n.toNat (ev σ x) L))) (pY n.toNat (ev σ x) L).length) } })
    (Fr.write (.mp ag (pY n.toNat (ev σ x) L)) ho Iy rfl hb (λk hk=>by simp[tM (Ne.symm hk)]) Iy rfl rfl rfl)
    (h.FI (ob':=.mp ag (pY n.toNat (ev σ x) L)) ho Iy rfl hb (λk hk=>by simp[tM (Ne.symm hk)]) Iy λgp hR=>⟨b,λj=>if j=n.toNat then a.eval x else f j,hb,by simp only[Array.getElem?_setIfInBounds_self_of_lt pg],λp hp=>?_,λj p hp=>?_⟩) ha hd hK ?_
   ·unfold pY at hp;rcases qU hp with hp|hp
    ·exact hL p hp
    ·have mq:n.toNat<L.length:=Ix;rw[hp,aB,bT mq];exact hL L[n.toNat] (List.getElem_mem mq)
   ·unfold pY at hp;simp only[bY]at hp;by_cases hj:n.toNat=j
    ·subst hj;rw[if_pos rfl,if_pos Ix]at hp;cases hp;dsimp only;rw[if_pos rfl];exact hR _ _ (E x)
    ·rw[if_neg hj]at hp;dsimp only;rw[if_neg (Ne.symm hj)];exact hR _ _ (lU j p hp)
   ·simp only[execOp,aP,k8,Sem.run_bind,eG,Result.andThen_ok,Sem.run_pure]
  ·exact hW.elim
 case index t x i =>
  simp only at hW;split at hW
  ·rename_i s k n hs hi;obtain⟨⟨hu,lh,lS⟩,hK⟩:=hW;have hx:=E x;rw[hs]at hx;have hj:=E i;rw[hi]at hj;have a6:n.toNat<s.size:=Ix;have hg:s[n.toNat]?=some s[n.toNat]:=by simp[a6]
   refine dj h ha hd (.lit _) hK ?_;simp only[execOp,hx.cz,hj.cz,Instr.index,asIntOf,Sem.run_bind,Sem.run_pure,Result.andThen_ok,run_underlying hu,if_pos lh,hg,IQ]
  ·exact hW.elim
 case makeInterface t x =>
  simp only at hW;obtain⟨h1,hK⟩:=hW;refine dj h ha hd (v:=.gZ t (ev σ x)) (cv:=.iface t (a.eval x)) (.gZ _ _ _ (E x)) hK ?_;unfold y7 at h1;cases hu:P.underlying t with
  |none=>simp[hu]at h1
  |some d=>cases d<;>simp[hu]at h1<;>simp[execOp,Instr.makeInterface,run_underlying hu]
 case typeAssert x xt asserted ok =>
  simp only at hW;have hx:=E x;split at hW
  ·rename_i t v he;rw[he]at hx;obtain⟨cx,hc,hv⟩:=hx.PW;obtain⟨⟨h1,rfl,rfl⟩,hK⟩:=hW;refine dj h ha hd hv hK ?_;unfold y7 at h1;cases hu:P.underlying t with
   |none=>simp[hu]at h1
   |some d=>cases d<;>simp[hu]at h1<;>simp[execOp,hc,Instr.typeAssert,run_underlying hu]
  ·exact hW.elim
 case makeFunc fn first captured =>
  simp only at hW;split at hW
  ·rename_i f;obtain⟨hf,hK⟩:=hW;have hfe:first = #[]:=Array.eq_empty_of_size_eq_zero hf
   subst hfe;refine dj h ha hd (v:=.fn f (captured.toList.map (ev σ))) (cv:=.func (.func f) #[] (captured.map a.eval)) ?_ hK (by simp[execOp,Instr.makeFunc]);refine .fn _ _ _ Iy (λj x hj=>?_);simp only[b9]at hj;cases hc:captured.toList[j]? with
   |none=>simp[hc]at hj
   |some y =>
    simp[hc]at hj;subst hj;simp only[Cn]at hc;simp[ek,hc];exact E y
  ·exact hW.elim
 case makeSlice t l c =>
  simp only at hW;have hl:=E l;have hc:=E c;split at hW
  ·rename_i z k n k' n' hk hz he hf;rw[he]at hl;rw[hf]at hc;obtain⟨⟨dJ,h0,mT,rfl,lh,lS,CV,_⟩,hK,_⟩:=hW;have ht:=ud hk;obtain⟨i,d,hi,FE,ue,CW,hzero⟩:=uf dJ;obtain⟨zv,zr,je⟩:∃zv,i.zero=some zv/\zv.cells=z.toArray:=by
    rw[hzero]at hz;cases hv:i.zero with
    |none=>simp[hv]at hz
    |some v=>simp[hv]at hz;exact⟨v,rfl,by rw[<- hz]⟩
   have hb:(i.bytes:Int)*n'<=281474976710656:=by
    have h1:(i.bytes:Int)<=128:=by rw[<- CW];exact_mod_cast CV
    have h2:(i.bytes:Int)*n'<=128*n':=Int.mul_le_mul_of_nonneg_right h1 lh;omega
   have hr:=run_make (P:=P) γ.w t _ i zv ht hi zr k k' n' n' lh (Int.le_refl _) hb Ix;rw[<- ue,je]at hr;have FF:0<z.length:=by rw[mT];exact h0
   obtain⟨z1,z2⟩:=JD (os:=σ.aa) (w:=γ.w) (Z:=γ.Z) (blk:=γ.blk) z n'.toNat (n'.toNat*(ty P (ty P t).elem).size) (by rw[mT]) FF;refine FC (ob:=.arr (ty P (ty P t).elem).size (aJ n'.toNat (z.map .lit))) (cv:=.slice (some ⟨γ.w.heap.size,0,none⟩) n'.toNat n'.toNat) (cap:=n'.toNat) (cur:=madeCells z.toArray (n'.toNat*(ty P (ty P t).elem).size)) (t:=(ty P t).elem) h ha hd ?_ ?_ hK ?_
   ·refine⟨h0,?_,by rw[size_madeCells];omega,Iy,by unfold maxLen;omega,?_⟩
    ·intro row bN;simp only[List.mem_replicate]at bN;rw[bN.2];simp[mT]
    ·intro r c v hv;rw[gm];have cI:r<n'.toNat:=by
      simp only[cellAt,Option.bind_eq_some_iff]at hv;obtain⟨y,hy,_⟩:=hv;have:=(aR.1 hy).1;simpa using this
     simp only[cellAt,List.getElem?_replicate,cI,if_true,rU]at hv;have bG:c<(ty P (ty P t).elem).size:=by
      have:=(aR.1 hv).1;simp at this;omega
     have a6:=zg cI bG;have hx:((bn n'.toNat).flatMap λ_=>z.map AV.lit)[r*(ty P (ty P t).elem).size+c]?=some v:=by
      have key:∀ (m r:Nat),r<m->((bn m).flatMap λ_=>z.map AV.lit)[r*z.length+c]?=(z.map AV.lit)[c]?:=by
       intro m;have hlen:∀ m,((bn m).flatMap λ_=>z.map AV.lit).length=m*z.length:=by
        intro m
        induction m with
        |zero=>simp
        |succ m ih=>rw[u5,tN,bF,ih];simp[fN]
       induction m with
       |zero=>intro r hr;omega
       |succ m ih =>
        intro r hr;rw[u5,tN];by_cases x8:r<m
        ·rw[eB (by rw[hlen,mT];exact zg x8 bG)];exact ih r x8
        ·have:r=m:=Ix;subst this;rw[gX (by rw[hlen];omega),hlen];simp
      rw[<- mT,key _ _ cI];exact hv
     exact z2 _ _ hx
   ·have:=aw.ref (os:=σ.aa++[.arr (ty P (ty P t).elem).size (aJ n'.toNat (z.map .lit))]) (w:=γ.w.alloc (.cells (madeCells z.toArray (n'.toNat*(ty P (ty P t).elem).size)) (ty P t).elem)) (Z:=γ.Z) (blk:=c6 γ.blk σ.aa.length (some (γ.w.heap.size,0,n'.toNat)))
     σ.aa.length (ty P (ty P t).elem).size 0 n'.toNat γ.w.heap.size 0 n'.toNat n'.toNat _ (EY ..) (by simp[c6]) Iy Ix (bb _)
    simpa using this
   ·simp only[execOp,Sem.run_bind,hl.cz,hc.cz,hr,Result.andThen_ok,Sem.run_pure]
  ·exact hW.elim
 case fieldAddr s x f =>
  simp only at hW;have hx:=E x;split at hW
  ·rename_i off ft size hk iy;obtain⟨aN,hW⟩:=hW;obtain⟨fs,hu,iz⟩:=JJ hk;obtain⟨fd,FJ,CA,Bh⟩:∃fd:Field,fs[f]?=some fd/\fd.offset=off/\wS P fd.type=size:=by
    rw[iz]at iy;simp only[b9,Cn]at iy;cases hg:fs[f]? with
    |none=>simp[hg]at iy
    |some fd=>simp[hg]at iy;exact⟨fd,rfl,iy.1,iy.2.2⟩
   have eG:∀ (b o:Nat),(Instr.fieldAt s (.pointer (some ⟨b,o,none⟩)) f).run P γ.w=.ok (.pointer (some ⟨b,o+off,none⟩)) γ.w:=by
    intro b o;have hso:(sizeOf fd.type).run P γ.w=.ok size γ.w:=by
     rw[<- Bh];unfold wS at Bh ⊢;cases hi:P.info? fd.type with
     |none=>rw[hi]at Bh;simp at Bh;omega
     |some i=>simp[sizeOf,typeInfo,hi]
    have cA:¬ size=0:=Ix;simp[Instr.fieldAt,run_underlying hu,FJ,Instr.sureAddr,fieldPlace,hso,cA,Addr.rh,CA]
   split at hW
   ·rename_i id r c he;rw[he]at hx;cases ho:σ.aa[id]? with
    |none=>simp[ho]at hW
    |some ob =>
     have bL:ob≠.gone/\K (σ.put dst (.ptr id r (c+off))):=by cases ob<;>simp[ho]at hW ⊢<;>exact hW
     rcases hx.Jt with hg|⟨b,cap,cells,h1,h2,rfl,aP⟩|⟨sz,b,o,cap,rows,h1,h2,aP⟩
     ·rw[ho]at hg;simp at hg;exact absurd hg bL.1
     ·exact dj h ha hd (.nA id (c+off) b cap cells h1 h2) bL.2 (by simp only[execOp,Sem.run_bind,aP,eG,Result.andThen_ok,Sem.run_pure])
     ·refine dj h ha hd (.n9 id r (c+off) sz b o cap rows h1 h2) bL.2 ?_;simp only[execOp,Sem.run_bind,aP,eG,Result.andThen_ok,Sem.run_pure];simp[wB]
   ·rename_i cells he;rw[he]at hx;obtain⟨b,o,g,aP,h1,h2,h3⟩:=hx.Ju;refine dj h ha hd (.cd (cells.drop off) b (o+off) (λj=>g (off+j)) h1 ?_ ?_) hW ?_
    ·intro j x hj;rw[mI]at hj;have:=h2 _ _ hj;simpa [wB] using this
    ·intro j x hj;rw[mI]at hj;exact h3 _ _ hj
    ·simp only[execOp,Sem.run_bind,aP,eG,Result.andThen_ok,Sem.run_pure]
   ·exact hW.elim
  ·exact hW.elim
 case extract x i =>
  simp only at hW;have hx:=E x;split at hW
  ·rename_i vs he;rw[he]at hx;obtain⟨a7,aP,hs,hr⟩:=hx.PH;split at hW
   ·rename_i v hv;have hi:i<a7.size:=by rw[hs];exact(aR.1 hv).1
    refine dj h ha hd (hr i v hv) hW ?_;simp[execOp,aP,Instr.extract,hi,ek]
   ·exact hW.elim
  ·exact hW.elim
 case field s x f =>
  simp only at hW;have hx:=E x;split at hW
  ·rename_i off ft size hk iy;obtain⟨dJ,ue,hW⟩:=hW;obtain⟨fs,hu,iz⟩:=JJ hk;obtain⟨fd,FJ,CA,Bh⟩:∃fd:Field,fs[f]?=some fd/\fd.offset=off/\fd.type=ft:=by
    rw[iz]at iy;simp only[b9,Cn]at iy;cases hg:fs[f]? with
    |none=>simp[hg]at iy
    |some fd=>simp[hg]at iy;exact⟨fd,rfl,iy.1,iy.2.1⟩
   subst CA;subst Bh;split at hW
   ·rename_i cs he;rw[he]at hx;obtain⟨a7,aP,hs,hr⟩:=hx.PG;split at hW
    ·rename_i lV;refine dj h ha hd (v:=.agg ((cs.drop fd.offset).take size)) (cv:=.agg (a7.extract fd.offset (fd.offset+size))) ?_ hW.2 ?_
     ·have h1:=hW.1;refine .agg _ _ NS (λj y hj=>?_);have gA:j<size:=by have:=(aR.1 hj).1;simp at this;omega
      rw[uZ,if_pos gA,mI]at hj;have:=hr _ _ hj;simp[ek,Array.getElem?_extract]at this ⊢;rw[if_pos Ix];exact this
     ·simp[execOp,aP,Instr.field,run_underlying hu,FJ,asAgg,part,JK dJ,run_sizeOf dJ,lV,ue]
    ·rename_i lV;split at hW
     ·rename_i v hv;have hi:fd.offset<a7.size:=by rw[hs];exact(aR.1 hv).1
      refine dj h ha hd (hr _ v hv) hW ?_;simp[execOp,aP,Instr.field,run_underlying hu,FJ,asAgg,part,JK dJ,lV,hi,ek]
     ·exact hW.elim
   ·exact hW.elim
  ·exact hW.elim
 case indexAddr t x i =>
  simp only at hW;have hx:=E x;have hi:=E i;split at hW
  ·rename_i id sz off len k n hk he hf;rw[he]at hx;rw[hf]at hi;split at hW
   ·rename_i cX rows ho;obtain⟨⟨rfl,aN,dJ,h0,h1⟩,hK⟩:=hW;have ht:=ud hk;rcases hx.Jv with hg|⟨_,_,_,rfl,_⟩|⟨rfl,_⟩|⟨b,o,cap,cap',gz,g1,g2,g3,g4,g5,aP⟩
    ·rw[ho]at hg;simp at hg
    ·omega
    ·omega
    ·refine dj h ha hd (.n9 id (off+n.toNat) 0 _ b o cap gz g1 g2) hK ?_;have hc:0<=n/\n<(len:Int):=⟨h0,h1⟩;simp only[execOp,Sem.run_bind,Instr.indexAt,aP,hi.cz,asIntOf,Sem.run_pure,Result.andThen_ok,run_underlying ht,Sem.run_ite,hc,and_self,if_true,run_sizeOf dJ,<- aN,Addr.rh];simp[fN,wB]
   ·exact hW.elim
  ·rename_i sz rows k n hk he hf;rw[he]at hx;rw[hf]at hi;obtain⟨⟨aN,dJ,h0,h1⟩,hK⟩:=hW;have ht:=ud hk;rcases hx.zf.inv with⟨ad,cap,rfl,aP⟩|⟨b,o,cap,f,aP,g1,g2,g3,g4,g5⟩
   ·simp at h1;omega
   ·have hn:n.toNat<rows.length:=Ix;refine dj h ha hd (.cd (rows.getD n.toNat []) b (o+n.toNat*sz) (λj=>f n.toNat j) g1 ?_ ?_) hK ?_
    ·intro j y hj;have:cellAt rows n.toNat j=some y:=by
      rw[aB]at hj;simp[hn]at hj;simp[cellAt,hn,hj]
     have:=g4 _ _ _ this;simpa [wB] using this
    ·intro j y hj;have:cellAt rows n.toNat j=some y:=by
      rw[aB]at hj;simp[hn]at hj;simp[cellAt,hn,hj]
     exact g5 _ _ _ this
    ·have hc:0<=n/\n<(rows.length:Int):=⟨h0,Ix⟩;simp only[execOp,Sem.run_bind,Instr.indexAt,aP,hi.cz,asIntOf,Sem.run_pure,Result.andThen_ok,run_underlying ht,Sem.run_ite,hc,and_self,if_true,run_sizeOf dJ,<- aN,Addr.rh]
  ·rename_i id r c k n hk he hf;rw[he]at hx;rw[hf]at hi;cases ho:σ.aa[id]? with
   |none=>simp[ho]at hW
   |some ob =>
    have bL:ob≠.gone/\((ty P (ty P t).elem).kind≠99/\0<=n/\n<(ty P t).len)/\K (σ.put dst (.ptr id r (c+n.toNat*(ty P (ty P t).elem).size))):=by cases ob<;>simp[ho]at hW ⊢<;>exact hW
    obtain⟨ug,⟨dJ,h0,h1⟩,hK⟩:=bL;have ht:=JL hk;have hc:0<=n/\n<((ty P t).len:Int):=⟨h0,h1⟩;rcases hx.Jt with hg|⟨b,cap,cells,h1,h2,rfl,aP⟩|⟨sz,b,o,cap,rows,h1,h2,aP⟩
    ·rw[ho]at hg;simp at hg;exact absurd hg ug
    ·refine dj h ha hd (.nA id _ b cap cells h1 h2) hK ?_;simp only[execOp,Sem.run_bind,Instr.indexAt,aP,hi.cz,asIntOf,Sem.run_pure,Result.andThen_ok,run_underlying ht,Instr.sureAddr,Sem.run_ite,hc,and_self,if_true,run_sizeOf dJ,Addr.rh]
    ·refine dj h ha hd (.n9 id r _ sz b o cap rows h1 h2) hK ?_;simp only[execOp,Sem.run_bind,Instr.indexAt,aP,hi.cz,asIntOf,Sem.run_pure,Result.andThen_ok,run_underlying ht,Instr.sureAddr,Sem.run_ite,hc,and_self,if_true,run_sizeOf dJ,Addr.rh];simp[wB]
  ·rename_i cells k n hk he hf;rw[he]at hx;rw[hf]at hi;obtain⟨⟨dJ,h0,h1⟩,hK⟩:=hW;have ht:=JL hk;have hc:0<=n/\n<((ty P t).len:Int):=⟨h0,h1⟩;obtain⟨b,o,g,aP,g1,g2,g3⟩:=hx.Ju;refine dj h ha hd (.cd (cells.drop (n.toNat*(ty P (ty P t).elem).size)) b (o+n.toNat*(ty P (ty P t).elem).size) (λj=>g (n.toNat*(ty P (ty P t).elem).size+j)) g1 ?_ ?_) hK ?_
   ·intro j x hj;rw[mI]at hj;rw[wB];exact g2 _ _ hj
   ·intro j x hj;rw[mI]at hj;exact g3 _ _ hj
   ·simp only[execOp,Sem.run_bind,Instr.indexAt,aP,hi.cz,asIntOf,Sem.run_pure,Result.andThen_ok,run_underlying ht,Instr.sureAddr,Sem.run_ite,hc,and_self,if_true,run_sizeOf dJ,Addr.rh]
  ·exact hW.elim
 case slice t x lo hi mx =>
  simp only at hW;obtain⟨hk,dJ,rfl,hW⟩:=hW;have ht:=ud hk;have hx:=E x;have eG:∀ (ad:Option Addr) (len cap l h:Nat) (lo hi:Option Value),(lo=none/\l=0\/∃ k,lo=some (.int k (l:Int)))->(hi=none/\h=len\/∃ k,hi=some (.int k (h:Int)))->l<=h->h<=cap ->
    (ty P (ty P t).elem).kind≠99->(Instr.sliceAt t (.slice ad len cap) lo hi none).run P γ.w=.ok (.slice (if cap=l then ad else ad.map (·.add (l*(ty P (ty P t).elem).size))) (h-l) (cap-l)) γ.w:=by
   intro ad len cap l h lo hi jh oh h1 h2 dJ;have c1:(l:Int)<=h:=Ix;have c2:(h:Int)<=cap:=Ix;rcases jh with⟨rfl,rfl⟩|⟨k,rfl⟩<;>rcases oh with⟨rfl,rfl⟩|⟨k',rfl⟩ <;>
    simp[Instr.sliceAt,Instr.slice,Instr.sliceBounds,Instr.sliceBound,asIntOf,run_underlying ht,run_sizeOf dJ,h1,h2]
  split at hW
  ·rename_i id sz off len he;rw[he]at hx;split at hW
   ·rename_i cX rows ho;obtain⟨rfl,aN,hW⟩:=hW;obtain⟨h0,cI,_⟩:=h.dF _ _ ho;have key:∀ (l hh:Nat) (mU aq:Option Operand),(mU.map a.eval=none/\l=0\/∃ k,mU.map a.eval=some (.int k (l:Int)))->(aq.map a.eval=none/\hh=len\/∃ k,aq.map a.eval=some (.int k (hh:Int)))->l<=hh->hh<=len ->
      K (σ.put dst (.ref id cX (off+l) (hh-l)))->zm ⟨dst,.slice t x mU aq none,type,pos,after,guard⟩ σ γ a K ((execOp a.eval ⟨dst,.slice t x mU aq none,type,pos,after,guard⟩).run P γ.w):=by
     intro l hh mU aq jh oh h1 h2 hK;rcases hx.Jv with hg|⟨g1,g2,rfl,rfl,aP⟩|⟨rfl,b,xx,bo,gz,g1,g2,g3,aP⟩|⟨b,o,cap,cap',gz,g1,g2,g3,g4,g5,aP⟩
     ·rw[ho]at hg;simp at hg
     ·have:l=0:=Ix;subst this;have:hh=0:=Ix;subst this;refine dj (o:=⟨dst,.slice t x mU aq none,type,pos,after,guard⟩) h ha hd (.lR id _ g1 g2) hK ?_;have:=eG none 0 0 0 0 _ _ jh oh Ix Ix dJ;simp only[execOp,Sem.run_bind,aP,pR,this,Result.andThen_ok,Sem.run_pure];simp
     ·have:l=0:=Ix;subst this;have:hh=0:=Ix;subst this;refine dj (o:=⟨dst,.slice t x mU aq none,type,pos,after,guard⟩) h ha hd (.mo id _ _ b xx bo gz g1 g2 Ix) hK ?_;have:=eG (some ⟨b,xx,none⟩) 0 0 0 0 _ _ jh oh Ix Ix dJ;simp only[execOp,Sem.run_bind,aP,pR,this,Result.andThen_ok,Sem.run_pure];simp
     ·have hr:=eG (some ⟨b,o+off*cX,none⟩) len cap' l hh _ _ jh oh h1 Ix dJ;by_cases hm:cap'=l
      ·have e1:hh=l:=Ix;subst e1;rw[if_pos hm]at hr;have e2:hh-hh=0:=Ix;have e3:cap'-hh=0:=Ix;rw[e2,e3]at hr;rw[e2]at hK;refine dj (o:=⟨dst,.slice t x mU aq none,type,pos,after,guard⟩) h ha hd (.mo id _ _ b (o+off*cX) (o,cap) gz g1 g2 Ix) hK ?_;simp only[execOp,Sem.run_bind,aP,pR,hr,Result.andThen_ok,Sem.run_pure]
      ·rw[if_neg hm]at hr;refine dj (o:=⟨dst,.slice t x mU aq none,type,pos,after,guard⟩) h ha hd (.ref id _ (off+l) (hh-l) b o cap (cap'-l) gz g1 g2 Ix Ix Ix) hK ?_;simp only[execOp,Sem.run_bind,aP,pR,hr,Result.andThen_ok,Sem.run_pure,gY,Addr.rh,<- aN];simp[fN,wB]
    split at hW
    ·rename_i e1 e2;have jh:lo=none:=by cases lo<;>simp at e1 ⊢
     have oh:hi=none:=by cases hi<;>simp at e2 ⊢
     subst jh;subst oh;exact key 0 len none none (.inl ⟨rfl,rfl⟩) (.inl ⟨rfl,rfl⟩) Ix (bb _) (by simpa using hW)
    ·rename_i k l e1 e2;have oh:hi=none:=by cases hi<;>simp at e2 ⊢
     subst oh;obtain⟨lo,rfl,f1⟩:∃y,lo=some y/\ev σ y=.lit (.int k l):=by cases lo<;>simp at e1 ⊢;exact e1
     obtain⟨⟨c1,c2,_⟩,hK⟩:=hW;have hl:=E lo;rw[f1]at hl;refine key l.toNat len (some lo) none (.inr ⟨k,?_⟩) (.inl ⟨rfl,rfl⟩) Ix (bb _) hK;simp[hl.cz];omega
    ·rename_i k hh e1 e2;have jh:lo=none:=by cases lo<;>simp at e1 ⊢
     subst jh;obtain⟨hi,rfl,f2⟩:∃y,hi=some y/\ev σ y=.lit (.int k hh):=by cases hi<;>simp at e2 ⊢;exact e2
     obtain⟨⟨c1,c2⟩,hK⟩:=hW;have hl:=E hi;rw[f2]at hl;refine key 0 hh.toNat none (some hi) (.inl ⟨rfl,rfl⟩) (.inr ⟨k,?_⟩) Ix Ix (by simpa using hK);simp[hl.cz];omega
    ·rename_i k l k' hh e1 e2;obtain⟨lo,rfl,f1⟩:∃y,lo=some y/\ev σ y=.lit (.int k l):=by cases lo<;>simp at e1 ⊢;exact e1
     obtain⟨hi,rfl,f2⟩:∃y,hi=some y/\ev σ y=.lit (.int k' hh):=by cases hi<;>simp at e2 ⊢;exact e2
     obtain⟨⟨c1,c2,c3⟩,hK⟩:=hW;have hl:=E lo;have CX:=E hi;rw[f1]at hl;rw[f2]at CX;refine key l.toNat hh.toNat (some lo) (some hi) (.inr ⟨k,?_⟩) (.inr ⟨k',?_⟩) Ix Ix hK
     ·simp[hl.cz];omega
     ·simp[CX.cz];omega
    ·exact hW.elim
   ·exact hW.elim
  ·rename_i sz rows he;rw[he]at hx;obtain⟨aN,hW⟩:=hW;have key:∀ (l hh:Nat) (mU aq:Option Operand),(mU.map a.eval=none/\l=0\/∃ k,mU.map a.eval=some (.int k (l:Int)))->(aq.map a.eval=none/\hh=rows.length\/∃ k,aq.map a.eval=some (.int k (hh:Int)))->l<=hh->hh<=rows.length ->
     K (σ.put dst (.tree sz ((rows.drop l).take (hh-l))))->zm ⟨dst,.slice t x mU aq none,type,pos,after,guard⟩ σ γ a K ((execOp a.eval ⟨dst,.slice t x mU aq none,type,pos,after,guard⟩).run P γ.w):=by
    intro l hh mU aq jh oh h1 h2 hK;rcases hx.zf.inv with⟨ad,cap,rfl,aP⟩|⟨b,o,cap,f,aP,g1,g2,g3,g4,g5⟩
    ·have e1:hh=0:=by simpa using h2
     subst e1;have e2:l=0:=Ix;subst e2;have hr:=eG ad 0 cap 0 0 _ _ jh oh Ix Ix dJ;refine dj (o:=⟨dst,.slice t x mU aq none,type,pos,after,guard⟩) h ha hd (v:=.tree sz (([].drop 0).take (0-0))) (cv:=.slice (if cap=0 then ad else ad.map (·.add (0*(ty P (ty P t).elem).size))) (0-0) (cap-0)) (.cG _ _ (.nil sz (cap-0) _)) hK ?_;simp only[execOp,Sem.run_bind,aP,pR,hr,Result.andThen_ok,Sem.run_pure]
    ·have hr:=eG (some ⟨b,o,none⟩) rows.length cap l hh _ _ jh oh h1 Ix dJ;by_cases nF:hh-l=0
     ·have e:(rows.drop l).take (hh-l)=[]:=by rw[nF];simp
      rw[e]at hK;rw[nF]at hr;refine dj (o:=⟨dst,.slice t x mU aq none,type,pos,after,guard⟩) h ha hd (v:=.tree sz []) (cv:=.slice (if cap=l then some ⟨b,o,none⟩ else(some (⟨b,o,none⟩:Addr)).map (·.add (l*(ty P (ty P t).elem).size))) 0 (cap-l)) (.cG _ _ (.nil sz (cap-l) _)) hK ?_;simp only[execOp,Sem.run_bind,aP,pR,hr,Result.andThen_ok,Sem.run_pure]
     ·have cA:¬ cap=l:=Ix;rw[if_neg cA]at hr;have adx:rows≠[]:=by intro e;subst e;simp at h2;omega
      refine dj (o:=⟨dst,.slice t x mU aq none,type,pos,after,guard⟩) h ha hd (.cG _ _ (gx.sub g1 g2 g4 g5 l (hh-l) (cap':=cap-l) Ix g3 Ix)) hK ?_;simp only[execOp,Sem.run_bind,aP,pR,hr,Result.andThen_ok,Sem.run_pure,gY,Addr.rh,<- aN adx]
   split at hW
   ·rename_i e1 e2;have jh:lo=none:=by cases lo<;>simp at e1 ⊢
    have oh:hi=none:=by cases hi<;>simp at e2 ⊢
    subst jh;subst oh;exact key 0 rows.length none none (.inl ⟨rfl,rfl⟩) (.inl ⟨rfl,rfl⟩) Ix (bb _) (by simpa using hW)
   ·rename_i k l e1 e2;have oh:hi=none:=by cases hi<;>simp at e2 ⊢
    subst oh;obtain⟨lo,rfl,f1⟩:∃y,lo=some y/\ev σ y=.lit (.int k l):=by cases lo<;>simp at e1 ⊢;exact e1
    obtain⟨⟨c1,c2⟩,hK⟩:=hW;have hl:=E lo;rw[f1]at hl;refine key l.toNat rows.length (some lo) none (.inr ⟨k,?_⟩) (.inl ⟨rfl,rfl⟩) Ix (bb _) ?_
    ·simp[hl.cz];omega
    ·have e:(rows.drop l.toNat).take (rows.length-l.toNat)=rows.drop l.toNat:=List.take_of_length_le Iy;rw[e];exact hK
   ·rename_i k hh e1 e2;have jh:lo=none:=by cases lo<;>simp at e1 ⊢
    subst jh;obtain⟨hi,rfl,f2⟩:∃y,hi=some y/\ev σ y=.lit (.int k hh):=by cases hi<;>simp at e2 ⊢;exact e2
    obtain⟨⟨c1,c2⟩,hK⟩:=hW;have hl:=E hi;rw[f2]at hl;refine key 0 hh.toNat none (some hi) (.inl ⟨rfl,rfl⟩) (.inr ⟨k,?_⟩) Ix Ix (by simpa using hK);simp[hl.cz];omega
   ·rename_i k l k' hh e1 e2;obtain⟨lo,rfl,f1⟩:∃y,lo=some y/\ev σ y=.lit (.int k l):=by cases lo<;>simp at e1 ⊢;exact e1
    obtain⟨hi,rfl,f2⟩:∃y,hi=some y/\ev σ y=.lit (.int k' hh):=by cases hi<;>simp at e2 ⊢;exact e2
    obtain⟨⟨c1,c2,c3⟩,hK⟩:=hW;have hl:=E lo;have CX:=E hi;rw[f1]at hl;rw[f2]at CX;refine key l.toNat hh.toNat (some lo) (some hi) (.inr ⟨k,?_⟩) (.inr ⟨k',?_⟩) Ix Ix ?_
    ·simp[hl.cz];omega
    ·simp[CX.cz];omega
    ·rw[<- List.drop_take];exact hK
   ·exact hW.elim
  ·exact hW.elim
 case call c =>
  obtain⟨callee,args,argTypes⟩:=c;have nv:∀ l,args.toList=l->args=l.toArray:=by intro l h;rw[<- h]
  have FK:∀ l,argTypes.toList=l->argTypes=l.toArray:=by intro l h;rw[<- h]
  cases callee with
  |value f=>exact hW.elim
  |invoke r m=>exact hW.elim
  |builtin b =>
   cases b
   case len =>
    simp only at hW;split at hW
    ·rename_i x t bS jG;have ea:=nv _ bS;have et:=FK _ jG;subst ea;subst et;have hx:=E x;have eG:(ty P t).kind=1->∀ ad n c,a.eval x=.slice ad n c->(execOp a.eval ⟨dst,.call ⟨.builtin .len,[x].toArray,[t].toArray⟩,type,pos,after,guard⟩).run P γ.w=.ok (.value (.int .i64 (n:Int))) γ.w:=by
      intro hk ad n c hc;have ht:=ud hk;simp[execOp,resolve,invoke,builtin,Builtin.len_,run_underlying ht,hc,goInt]
     split at hW
     ·rename_i id sz off len he;rw[he]at hx;obtain⟨hk,hW⟩:=hW;split at hW
      ·rename_i cX rows ho;rcases hx.Jv with hg|⟨_,_,_,rfl,aP⟩|⟨rfl,_,_,_,_,_,_,_,aP⟩|⟨b,o,cap,cap',gz,g1,g2,g3,g4,g5,aP⟩
       ·rw[ho]at hg;simp at hg
       ·exact dj h ha hd (.lit _) hW.2 (eG hk _ _ _ aP)
       ·exact dj h ha hd (.lit _) hW.2 (eG hk _ _ _ aP)
       ·exact dj h ha hd (.lit _) hW.2 (eG hk _ _ _ aP)
      ·exact hW.elim
     ·rename_i sz rows he;rw[he]at hx;rcases hx.zf.inv with⟨ad,cap,rfl,aP⟩|⟨b,o,cap,f,aP,_⟩
      ·exact dj h ha hd (.lit _) hW.2 (eG hW.1 _ _ _ aP)
      ·exact dj h ha hd (.lit _) hW.2 (eG hW.1 _ _ _ aP)
     ·rename_i he;rw[he]at hx;exact dj h ha hd (.lit _) hW.2 (eG hW.1 _ _ _ hx.cz)
     ·rename_i id he;obtain⟨hk,hW⟩:=hW;split at hW
      ·rename_i ag L ho;obtain⟨kt,ht⟩:=Jz hk;rw[he]at hx;obtain⟨_,_,b,f,hb,aP,iK,_⟩:=CP h hx (id:=id) (ag:=ag) (L:=L) (by simp[lK,ho]);refine dj h ha hd (.lit _) hW ?_;simp[execOp,resolve,invoke,builtin,Builtin.len_,run_underlying ht,aP,goInt,MapKept.run_getObj_map iK,cR,qn]
      ·exact hW.elim
     ·exact hW.elim
    ·exact hW.elim
   case append =>
    simp only at hW;split at hW
    ·rename_i s x t t' bS jG;have ea:=nv _ bS;have et:=FK _ jG;subst ea;subst et;split at hW
     ·rename_i z pre σ1 sz src hk hz mQ qm;obtain⟨⟨rfl,dJ,aN,h0,mT,hlen,CV,ri⟩,hK⟩:=hW;have ady:k0 σ sz (ev σ s)=some (pre,σ1):=by rw[aN];exact mQ
      obtain⟨pf,γ1,h1,h2,h3,h4,h5⟩:=adz (P:=P) (oty:=type) h hk dJ hz aN h0 mT (E s) (E x) ady qm hlen CV ri;refine Bf (γ1:=γ1) h4 h3 (by rw[h2];exact ha) hd h5 hK ?_;simp[execOp,resolve,invoke,builtin,h1]
     ·exact hW.elim
    ·exact hW.elim
   case min =>
    simp only at hW;split at hW
    ·rename_i x y bS;have ea:=nv _ bS;subst ea;have hx:=E x;have hy:=E y;split at hW
     ·rename_i k p k' q he hf;rw[he]at hx;rw[hf]at hy;obtain⟨rfl,hK⟩:=hW;refine dj h ha hd (.lit _) hK ?_;have e:(if q<p then q else p)=min p q:=by simp only[Int.min_def];split<;>split<;>omega
      simp[execOp,resolve,invoke,builtin,Builtin.min_,Builtin.min2,hx.cz,hy.cz,e]
     ·exact hW.elim
    ·exact hW.elim
   case max =>
    simp only at hW;split at hW
    ·rename_i x y bS;have ea:=nv _ bS;subst ea;have hx:=E x;have hy:=E y;split at hW
     ·rename_i k p k' q he hf;rw[he]at hx;rw[hf]at hy;obtain⟨rfl,hK⟩:=hW;refine dj h ha hd (.lit _) hK ?_;have e:(if q > p then q else p)=max p q:=by simp only[Int.max_def];split<;>split<;>omega
      simp[execOp,resolve,invoke,builtin,Builtin.max_,Builtin.max2,hx.cz,hy.cz,e]
     ·exact hW.elim
    ·exact hW.elim
   case copy =>
    simp only at hW;split at hW
    ·rename_i s x t t' bS jG;have ea:=nv _ bS;have et:=FK _ jG;subst ea;subst et;have hs:=E s;split at hW
     ·rename_i id sz off len cX src he qm;rw[he]at hs;split at hW
      ·rename_i kK rows ho;obtain⟨⟨hk,dJ,rfl,rfl,aN,h0,ri⟩,hK⟩:=hW;obtain⟨w',h1,h2,h3⟩:=adA (P:=P) (t':=t') (oty:=type) h hk dJ aN h0 hs (E x) ho qm ri;refine Bf (γ1:={ γ with w:=w' }) h3 h2 ha hd (.lit _) hK ?_;simp[execOp,resolve,invoke,builtin,h1]
      ·exact hW.elim
     ·exact hW.elim
    ·exact hW.elim
   case clear =>
    simp only at hW;split at hW
    ·rename_i s t bS jG;have ea:=nv _ bS;have et:=FK _ jG;subst ea;subst et;have hs:=E s;split at hW
     ·rename_i id sz off len z he hz;rw[he]at hs;split at hW
      ·rename_i cX rows ho;obtain⟨⟨hk,dJ,rfl,mT,h0,wT⟩,hK⟩:=hW;obtain⟨w',h1,h2,h3⟩:=adB (P:=P) (oty:=type) h hk dJ mT h0 hz wT hs ho;refine Bf (γ1:={ γ with w:=w' }) h3 h2 ha hd (.lit _) hK ?_;simp[execOp,resolve,invoke,builtin,h1]
      ·exact hW.elim
     ·exact hW.elim
    ·exact hW.elim
   all_goals exact hW.elim
 case convert s d x =>
  simp only at hW;have hx:=E x;split at hW
  ·rename_i k k' n ua he;rw[he]at hx;obtain⟨hu,hK⟩:=hW;obtain⟨u,hu⟩:=Option.isSome_iff_exists.1 hu;refine dj h ha hd (.lit _) hK ?_;simp[execOp,convert,run_underlying hu,run_underlying ua,hx.cz,Conv.intToInt]
  ·exact hW.elim
 all_goals exact hW.elim
end Go.Am

