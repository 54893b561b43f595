import Derived.Test.YtdipcmigdbnheaaGreatX01
import Derived.MapKept
import Derived.Laws.StructEq
set_option linter.unusedVariables false
set_option linter.unusedSimpArgs false
set_option linter.unnecessarySimpa false
set_option linter.unusedSectionVars false
set_option maxHeartbeats 64000000
set_option maxRecDepth 20000
open List renaming getElem?_take→sv,getElem?_drop→nI,getElem?_set→bS,getElem?_eq_some_iff→aS,ext_getElem→KL,length_append→bJ,length_singleton→wD,mem_append→cy,mem_singleton→ek,getElem?_append_left→cj,getElem?_append_right→eE,getElem?_cons_zero→ss,ext_getElem?→ju,length_set→bm,mem_or_eq_of_mem_set→rf,getElem?_eq_getElem→bI,getD_eq_getElem?_getD→ay,getElem?_concat_length→C9,getElem?_map→bN,replicate→bq,range→aT,range_succ→vf,flatMap_append→oN
open Nat renaming add_mul→e9,le_refl→aH,sub_self→iC,ne_of_lt→lv,lt_or_ge→eK,sub_zero→tT,zero_add→eR,add_assoc→vg
open Option renaming some→da,map_some→ed,map_none→oM,getD_some→kW,bind_some→su
open Array renaming range→Gj,getElem?_eq_some_iff→oL,getElem?_setIfInBounds_ne→wE,getElem?_toList→Ax,getD_eq_getD_getElem?→eQ
namespace Go.Am
theorem Y1 {P:Program} (w:World) (t e:TypeId) (a:Option Addr) (n c:Nat) (ht:P.underlying t=some (.slice e)) :
    (binOp .eql t (.slice a n c) (.slice none 0 0)).run P w=.ok (.bool a.isNone) w:=by
  have h:∀ d:Nat,(Op.equalIn (d+1) t (.slice a n c) (.slice none 0 0)).run P w=.ok a.isNone w:=fun d=>by
    cases a<;>simp[Op.equalIn,run_underlying ht]
  simp only[binOp]
  simp[Op.equal,Op.maxDepth,h 9999]
theorem Y2 {P:Program} (w:World) (t e:TypeId) (a:Option Addr) (n c:Nat) (ht:P.underlying t=some (.slice e)) :
    (binOp .neq t (.slice a n c) (.slice none 0 0)).run P w=.ok (.bool (!a.isNone)) w:=by
  have h:∀ d:Nat,(Op.equalIn (d+1) t (.slice a n c) (.slice none 0 0)).run P w=.ok a.isNone w:=fun d=>by
    cases a<;>simp[Op.equalIn,run_underlying ht]
  simp only[binOp]
  simp[Op.equal,Op.maxDepth,h 9999]
variable {P:Program}
theorem Y3 (w:World) (t:TypeId) {e:TypeId} (a:Addr) (n c:Nat) (ht:P.underlying t=some (.slice e)) :
    (binOp .eql t (.slice (some a) n c) (.slice none 0 0)).run P w=.ok (.bool false) w:=by
  have h:∀ d:Nat,(Op.equalIn (d+1) t (.slice (some a) n c) (.slice none 0 0)).run P w=.ok false w:=fun d=>by
    simp[Op.equalIn,run_underlying ht]
  simp only[binOp]
  simp[Op.equal,Op.maxDepth,h 9999]
theorem Y4 (w:World) (t:TypeId) {e:TypeId} (a:Addr) (n c:Nat) (ht:P.underlying t=some (.slice e)) :
    (binOp .neq t (.slice (some a) n c) (.slice none 0 0)).run P w=.ok (.bool true) w:=by
  have h:∀ d:Nat,(Op.equalIn (d+1) t (.slice (some a) n c) (.slice none 0 0)).run P w=.ok false w:=fun d=>by
    simp[Op.equalIn,run_underlying ht]
  simp only[binOp]
  simp[Op.equal,Op.maxDepth,h 9999]
theorem aw.Hg {os:List Ob} {w:World} {Z:Nat→Prop} {blk:fU} {id r c:Nat} {cv:Value} (h:aw os w Z blk (.ptr id r c) cv) :
    os[id]?=some .gone∨(∃ b cap cells,os[id]?=some (.var cells)∧blk id=some (b,0,cap)∧r=0∧cv=.pointer (some ⟨b,c,none⟩)) ∨
    (∃ sz b o cap rows,os[id]?=some (.arr sz rows)∧blk id=some (b,o,cap)∧cv=.pointer (some ⟨b,o+(r * sz+c),none⟩)):=by
  cases h with
  | cd _ _ h=>cases h
  | lU _ _ _ _ h=>exact .inl h
  | mF _ _ b cap cells h hb=>exact .inr (.inl ⟨b,cap,cells,h,hb,rfl,rfl⟩)
  | m9 _ _ _ sz b o cap rows h hb=>exact .inr (.inr ⟨sz,b,o,cap,rows,h,hb,rfl⟩)
theorem aw.M' {os:List Ob} {w:World} {Z:Nat→Prop} {blk:fU} {cells:List AV} {cv:Value} (h:aw os w Z blk (.db cells) cv) :
    ∃ b o,∃ f:Nat→Value,cv=.pointer (some ⟨b,o,none⟩)∧Z b∧(∀ j x,cells[j]?=some x→w.cell? ⟨b,o+j,none⟩=some (f j))∧∀ j x,cells[j]?=some x→gy w Z x (f j):=by
  cases h with
  | cd _ _ h=>cases h
  | db _ b o f h1 h2 h3=>exact⟨b,o,f,rfl,h1,h2,h3⟩
theorem aw.Hh {os:List Ob} {w:World} {Z:Nat→Prop} {blk:fU} {id sz off len:Nat} {cv:Value} (h:aw os w Z blk (.ref id sz off len) cv) :
    os[id]?=some .gone∨(os[id]?=some (.arr sz [])∧blk id=none∧off=0∧len=0∧cv=.slice none 0 0) ∨
    (len=0∧∃ b x bo rows,os[id]?=some (.arr sz rows)∧blk id=some (b,bo)∧off≤rows.length∧cv=.slice (some ⟨b,x,none⟩) 0 0) ∨
    (∃ b o cap cap' rows,os[id]?=some (.arr sz rows)∧blk id=some (b,o,cap)∧off+len≤rows.length∧off+cap'≤cap∧len≤cap'∧cv=.slice (some ⟨b,o+off * sz,none⟩) len cap'):=by
  cases h with
  | cd _ _ h=>cases h
  | kc _ _ _ _ _ h=>exact .inl h
  | lC _ _ h hb=>exact .inr (.inl ⟨h,hb,rfl,rfl,rfl⟩)
  | lV _ _ _ b x bo rows h hb hl=>exact .inr (.inr (.inl ⟨rfl,b,x,bo,rows,h,hb,hl,rfl⟩))
  | ref _ _ _ _ b o cap cap' rows h hb hl hc j6=>exact .inr (.inr (.inr ⟨b,o,cap,cap',rows,h,hb,hl,hc,j6,rfl⟩))
theorem aw.MN {os:List Ob} {w:World} {Z:Nat→Prop} {blk:fU} {cs:List AV} {cv:Value} (h:aw os w Z blk (.agg cs) cv) :
    ∃ aY,cv=.agg aY∧aY.size=cs.length∧∀ j x,cs[j]?=some x→aw os w Z blk x (aY.getD j Go.undef):=by
  cases h with
  | cd _ _ h=>cases h
  | agg _ aY h1 h2=>exact⟨aY,rfl,h1,h2⟩
theorem aw.MO {os:List Ob} {w:World} {Z:Nat→Prop} {blk:fU} {cs:List AV} {cv:Value} (h:aw os w Z blk (.bL cs) cv) :
    ∃ aY,cv=.tuple aY∧aY.size=cs.length∧∀ j x,cs[j]?=some x→aw os w Z blk x (aY.getD j Go.undef):=by
  cases h with
  | cd _ _ h=>cases h
  | bL _ aY h1 h2=>exact⟨aY,rfl,h1,h2⟩
theorem aw.MZ {os:List Ob} {w:World} {Z:Nat→Prop} {blk:fU} {f:FuncId} {cs:List AV} {cv:Value} (h:aw os w Z blk (.fn f cs) cv) :
    ∃ aY,cv=.func (.func f) #[] aY∧aY.size=cs.length∧∀ j x,cs[j]?=some x→aw os w Z blk x (aY.getD j Go.undef):=by
  cases h with
  | cd _ _ h=>cases h
  | fn _ _ aY h1 h2=>exact⟨aY,rfl,h1,h2⟩
theorem aw.M0 {os:List Ob} {w:World} {Z:Nat→Prop} {blk:fU} {t:TypeId} {v:AV} {cv:Value} (h:aw os w Z blk (.gz t v) cv) :∃x,cv=.iface t x∧aw os w Z blk v x:=by
  cases h with
  | cd _ _ h=>cases h
  | gz _ _ x h=>exact⟨x,rfl,h⟩
theorem gy.inv {w:World} {Z:Nat→Prop} {sz:Nat} {rows:List (List AV)} {cv:Value} (h:gy w Z (.tree sz rows) cv) :
    (∃ a cap,rows=[]∧cv=.slice a 0 cap)∨∃ b o cap,∃ f:Nat→Nat→Value,cv=.slice (some ⟨b,o,none⟩) rows.length cap∧Z b∧(∀ row∈rows,row.length=sz)∧rows.length≤cap ∧
      (∀ r c x,cellAt rows r c=some x→w.cell? ⟨b,o+(r * sz+c),none⟩=some (f r c))∧∀ r c x,cellAt rows r c=some x→gy w Z x (f r c):=by
  cases h with
  | nil _ cap a=>exact .inl ⟨a,cap,rfl,rfl⟩
  | tree _ _ b o cap f h1 h2 h3 h4 h5=>exact .inr ⟨b,o,cap,f,rfl,h1,h2,h3,h4,h5⟩
theorem gy.sub {w:World} {Z:Nat→Prop} {sz:Nat} {rows:List (List AV)} {b o cap cap':Nat} {f:Nat→Nat→Value} (hz:Z b) (hr:∀ row∈rows,row.length=sz)
    (hc:∀ r c x,cellAt rows r c=some x→w.cell? ⟨b,o+(r * sz+c),none⟩=some (f r c)) (ht:∀ r c x,cellAt rows r c=some x→gy w Z x (f r c)) (lo n:Nat) (hn:n≤cap') (_hcap:rows.length≤cap) (jf:lo+n≤rows.length) :
    gy w Z (.tree sz ((rows.drop lo).take n)) (.slice (some ⟨b,o+lo * sz,none⟩) n cap'):=by
  have hlen:((rows.drop lo).take n).length=n:=by simp;omega
  have qf:∀ r c x,cellAt ((rows.drop lo).take n) r c=some x→cellAt rows (lo+r) c=some x:=by
    intro r c x hx
    simp only[cellAt,sv,nI] at hx
    split at hx
    · exact hx
    · simp at hx
  have:=gy.tree (w:=w) (Z:=Z) sz ((rows.drop lo).take n) b (o+lo * sz) cap' (fun r c=>f (lo+r) c) hz (fun row h=>hr row (List.mem_of_mem_drop (List.mem_of_mem_take h))) (by omega)
    (fun r c x hx=>by
      have h1:=hc _ _ _ (qf r c x hx)
      rw[e9] at h1
      have e:o+(lo * sz+r * sz+c)=o+lo * sz+(r * sz+c):=by omega
      rw[e] at h1
      exact h1) (fun r c x hx=>ht _ _ _ (qf r c x hx))
  rw[hlen] at this
  exact this
theorem DQ {o:Oper} {σ:St} {γ:Cx} {a:Act} {K:St→Prop} (h:br σ γ) (ha:γ.tmps=a.tmps) (hd:∀ d,o.dst=some d→d<a.tmps.size) {ob:Ob} {cur:Array Value} {t:TypeId} {cap:Nat}
    (aZ:rG σ.aa γ.w γ.Z γ.blk 0 cap cur ob) {v:AV} {cv:Value}
    (hv:aw (σ.aa++[ob]) (γ.w.alloc (.cells cur t)) γ.Z (cL γ.blk σ.aa.length (some (γ.w.heap.size,0,cap))) v cv)
    (hK:K (({ σ with aa:=σ.aa++[ob] }:St).put o.dst v)) {r:Result Next} (hr:r=.ok (.value cv) (γ.w.alloc (.cells cur t))):w9 o σ γ a K r :=
  yY (σ1:={ σ with aa:=σ.aa++[ob] }) (γ1:={ γ with w:=γ.w.alloc (.cells cur t),blk:=cL γ.blk σ.aa.length (some (γ.w.heap.size,0,cap)) })
    (Fr.push (t:=t) (cur:=cur) ob rfl rfl rfl rfl) (h.push (t:=t) (cur:=cur) rfl aZ) ha hd hv hK hr
theorem yZ (iI:List (Value × Value)):(fX iI).toList=iI.mapIdx fun i p=>(⟨p.1,p.2,i⟩:MapEntry):=by simp[fX]
theorem Na (L:List (Value × Value)) (p:Value × Value):(fX L).push ⟨p.1,p.2,L.length⟩=fX (L++[p]):=by
  apply Array.toList_inj.1
  rw[Array.toList_push,yZ,yZ,List.mapIdx_append]
  simp
theorem Hi (L:List (Value × Value)) (i:Nat) (f:MapEntry→MapEntry) (p:Value × Value) (hf:∀ q,L[i]?=some q→f ⟨q.1,q.2,i⟩=⟨p.1,p.2,i⟩):(fX L).modify i f=fX (L.set i p):=by
  apply Array.ext_getElem?
  intro j
  rw[Array.getElem?_modify]
  simp only[fX,List.getElem?_toArray,List.getElem?_mapIdx,bS]
  by_cases h:i=j
  · subst h
    rw[if_pos rfl,if_pos rfl]
    cases hq:L[i]? with
    | none =>
      have:¬ i<L.length:=by
        have:=List.getElem?_eq_none_iff.1 hq;omega
      simp[this]
    | some q =>
      have:i<L.length:=(aS.1 hq).1
      simp[this,hf q hq]
  · rw[if_neg h,if_neg h]
theorem xd (ag:Nat) (f:Nat→Value) (L:List (List Int × AV)):(dy ag f L).length=L.length:=by unfold dy;simp
theorem rH (ag:Nat) (f:Nat→Value) (L:List (List Int × AV)) (j:Nat):(dy ag f L)[j]?=(L[j]?).map fun p=>(kV ag p.1,f j):=by unfold dy;simp
theorem xe {l:List Int}:∀ {L:List (List Int × AV)} {i j:Nat},jg l L i=some j→i≤j∧∃ v,L[j - i]?=some (l,v)
  | [],_,_,h=>by cases h
  | p::r,i,j,h=>by
    rw[jg] at h
    split at h
    · rename_i hp
      cases h
      exact⟨aH _,p.2,by rw[iC];simp[← hp]⟩
    · obtain ⟨h1,v,h2⟩:=xe h
      have e:j - i=(j - (i+1))+1:=by omega
      exact⟨by omega,v,by rw[e,List.getElem?_cons_succ];exact h2⟩
theorem A1 {σ:St} {γ:Cx} (h:br σ γ) {v:AV} {cv:Value} (hv:aw σ.aa γ.w γ.Z γ.blk v cv) {id ag:Nat} {L:List (List Int × AV)} (hm:kY σ v=some (id,ag,L)) :
    v=.gl id∧σ.aa[id]?=some (.mp ag L)∧∃ b,∃ f:Nat→Value,γ.blk id=some (b,0,0)∧cv=.map (some b)∧γ.w.heap[b]?=some (.map (fX (dy ag f L)) L.length)∧(∀ p∈L,p.1.length=jz ag)∧∀ (j:Nat) p,L[j]?=some p→aw σ.aa γ.w γ.Z γ.blk p.2 (f j):=by
  unfold kY at hm
  split at hm
  · rename_i wU
    split at hm
    · rename_i hJ L' ho
      simp only[da.injEq,Prod.mk.injEq] at hm
      obtain ⟨rfl,rfl,rfl⟩:=hm
      obtain ⟨b,f,h1,h2,h3,h4⟩:=h.er _ _ ho
      cases hv with
      | cd _ _ h=>cases h
      | pF _ _ h' _=>rw[ho] at h';simp at h'
      | gl _ b' _ _ h' hb =>
        rw[h1] at hb
        simp only[da.injEq,Prod.mk.injEq,and_true] at hb
        subst hb
        exact⟨rfl,ho,b,f,h1,rfl,h2,h3,h4⟩
    · cases hm
  · cases hm
theorem Hj {os:List Ob} {w:World} {Z:Nat→Prop} {blk:fU} {v:AV} {cv:Value} (hv:aw os w Z blk v cv) {ag:Nat} {l:List Int} (hk:keyOf v=some (ag,l)) (hl:l.length=jz ag):cv=kV ag l:=by
  unfold keyOf at hk
  split at hk
  · simp only[da.injEq,Prod.mk.injEq] at hk
    obtain ⟨rfl,rfl⟩:=hk
    rw[hv.cH];rfl
  · rename_i cs
    cases hi:jy cs with
    | none=>simp[hi] at hk
    | some as =>
      simp only[hi,ed,da.injEq,Prod.mk.injEq] at hk
      obtain ⟨rfl,rfl⟩:=hk
      have:=Hk hv hi
      rw[this]
      unfold jz at hl
      unfold kV
      by_cases h0:as.length=0
      · rw[if_pos h0] at hl;omega
      · rw[if_neg h0]
  · cases hk
theorem Y5 {t:TypeId} {ag:Nat} (rI:j7 P t ag) {z:Value} {w:World} (hz:∀ kt et,P.underlying t=some (.map kt et)→(zeroValue et).run P w=.ok z w) {b:Nat} {f:Nat→Value} {L:List (List Int × AV)}
    (hb:w.heap[b]?=some (.map (fX (dy ag f L)) L.length)) (hL:∀ p∈L,p.1.length=jz ag) {l:List Int} (hl:l.length=jz ag) :
    (Instr.lookup t (.map (some b)) (kV ag l) false).run P w=.ok (((jg l L 0).map f).getD z) w:=by
  obtain ⟨kt,et,ht,hk⟩:=rI
  obtain ⟨h1,h2,h3⟩:=hk l hl
  simp only[Instr.lookup,Sem.run_bind,run_underlying ht,MapKept.run_getObj_map hb,h1,h3 f L w hL,Result.andThen_ok,Sem.run_pure]
  cases h:jg l L 0 with
  | none=>simp[hz kt et ht]
  | some q=>simp
theorem Y6 {t:TypeId} {ag:Nat} (rI:j7 P t ag) {w:World} {b:Nat} {f:Nat→Value} {L:List (List Int × AV)}
    (hb:w.heap[b]?=some (.map (fX (dy ag f L)) L.length)) (hL:∀ p∈L,p.1.length=jz ag) {l:List Int} (hl:l.length=jz ag) (v:AV) (cv:Value) :
    ∃ f':Nat→Value,(Instr.mapUpdate t (.map (some b)) (kV ag l) cv).run P w=.ok () { w with heap:=w.heap.setIfInBounds b (.map (fX (dy ag f' (fh l v L))) (fh l v L).length) } ∧
      (∀ p∈fh l v L,p.1.length=jz ag)∧∀ (j:Nat) p,(fh l v L)[j]?=some p→(p.2=v∧f' j=cv)∨(L[j]?=some p∧f' j=f j):=by
  obtain ⟨kt,et,ht,hk⟩:=rI
  obtain ⟨h1,h2,h3⟩:=hk l hl
  simp only[Instr.mapUpdate,Sem.run_bind,run_underlying ht,MapKept.run_getObj_map hb,h1,h3 f L w hL,Result.andThen_ok]
  unfold fh
  cases h:jg l L 0 with
  | none =>
    refine⟨fun j=>if j=L.length then cv else f j,?_,fun p hp=>?_,fun j p hp=>?_⟩
    · have e:=Na (dy ag f L) (kV ag l,cv)
      rw[xd] at e
      have e2:dy ag f L++[(kV ag l,cv)]=dy ag (fun j=>if j=L.length then cv else f j) (L++[(l,v)]):=by
        unfold dy
        rw[List.mapIdx_append]
        congr 1
        · apply KL
          · simp
          · intro j h5 h6
            have:j<L.length:=by simpa using h5
            simp[lv this]
        · simp
      simp only[oM,MapKept.run_setObj_map _ hb,e,e2,bJ,wD]
    · rcases cy.1 hp with hp | hp
      · exact hL p hp
      · rw[ek.1 hp];exact hl
    · rcases eK j L.length with hj | hj
      · rw[cj hj] at hp
        exact .inr ⟨hp,by dsimp only;rw[if_neg (by omega)]⟩
      · rw[eE hj] at hp
        have:j=L.length:=by
          have:=(aS.1 hp).1
          simp at this;omega
        subst this
        simp only[iC,ss,da.injEq] at hp
        subst hp
        exact .inl ⟨rfl,by dsimp only;rw[if_pos rfl]⟩
  | some q =>
    obtain ⟨_,u,hu⟩:=xe h
    rw[tT] at hu
    have hq:=(aS.1 hu).1
    refine⟨fun j=>if j=q then cv else f j,?_,fun p hp=>?_,fun j p hp=>?_⟩
    · have Hl:(((fX (dy ag f L))[q]?).map (·.key)).getD (kV ag l)=kV ag l:=by
        simp[fX,rH,hu]
      have e:=Hi (dy ag f L) q (fun e=>{ e with key:=kV ag l,val:=cv }) (kV ag l,cv) (fun _ _=>rfl)
      have e2:(dy ag f L).set q (kV ag l,cv)=dy ag (fun j=>if j=q then cv else f j) (L.set q (l,v)):=by
        apply ju
        intro j
        rw[bS,rH,rH,bS,xd]
        by_cases hj:q=j
        · subst hj;simp[hq]
        · rw[if_neg hj,if_neg hj,if_neg (Ne.symm hj)]
      simp only[ed,Hl,h2,Result.andThen_ok,MapKept.run_setObj_map _ hb,Sem.run_bind]
      rw[e,e2,bm]
    · rcases rf hp with hp | hp
      · exact hL p hp
      · rw[hp];exact hl
    · simp only[bS] at hp
      by_cases hj:q=j
      · subst hj
        rw[if_pos rfl,if_pos hq] at hp
        cases hp
        exact .inl ⟨rfl,by dsimp only;rw[if_pos rfl]⟩
      · rw[if_neg hj] at hp
        exact .inr ⟨hp,by dsimp only;rw[if_neg (Ne.symm hj)]⟩
theorem br.Y7 {σ:St} {γ:Cx} (h:br σ γ) {id:Nat} {ob ob':Ob} (ho:σ.aa[id]?=some ob) (hg:ob≠.gone) (ke:ob.dX ob') {b o cap:Nat} (hb:γ.blk id=some (b,o,cap))
    {w':World} (nh:∀ k,k≠b→w'.heap[k]?=γ.w.heap[k]?):∀ v cv,aw σ.aa γ.w γ.Z γ.blk v cv→aw (σ.aa.set id ob') w' γ.Z γ.blk v cv:=by
  have cN:id<σ.aa.length:=(aS.1 ho).1
  have nY:Live σ.aa id:=⟨ob,ho,hg⟩
  exact fun v cv hv =>
    hv.mono (fun z hz=>⟨hz,nh z (fun e=>h.nz b ⟨id,o,cap,nY,hb⟩ (e ▸ hz))⟩) (fun i x hx=>by
      rw[bS]
      by_cases lX:id=i
      · subst lX
        rw[ho] at hx
        simp at hx
        subst hx
        right
        refine⟨rfl,ob',by simp[cN],ke⟩
      · rw[if_neg lX]
        by_cases bD:x=.gone
        · subst bD;exact .inl hx
        · exact .inr ⟨rfl,x,hx,Ob.jB bD⟩)
theorem Y8 {t:TypeId} {ag:Nat} (rI:j7 P t ag) {z:Value} {w:World} (hz:∀ kt et,P.underlying t=some (.map kt et)→(zeroValue et).run P w=.ok z w) {b:Nat} {f:Nat→Value} {L:List (List Int × AV)}
    (hb:w.heap[b]?=some (.map (fX (dy ag f L)) L.length)) (hL:∀ p∈L,p.1.length=jz ag) {l:List Int} (hl:l.length=jz ag) :
    ∃ f':Nat→Value,(Instr.mapEntry t (.map (some b)) (kV ag l)).run P w=.ok (.tuple #[((jg l L 0).map f).getD z,.int .i64 (yK l L:Nat)]) { w with heap:=w.heap.setIfInBounds b (.map (fX (dy ag f' (fh l ((m0 l L).getD (.lit z)) L))) (fh l ((m0 l L).getD (.lit z)) L).length) } ∧
      (∀ p∈fh l ((m0 l L).getD (.lit z)) L,p.1.length=jz ag)∧∀ (j:Nat) p,(fh l ((m0 l L).getD (.lit z)) L)[j]?=some p→(p.2=(m0 l L).getD (.lit z)∧f' j=((jg l L 0).map f).getD z)∨(L[j]?=some p∧f' j=f j):=by
  obtain ⟨kt,et,ht,hk⟩:=rI
  obtain ⟨h1,h2,h3⟩:=hk l hl
  generalize hv:(m0 l L).getD (.lit z)=v
  simp only[Instr.mapEntry,Sem.run_bind,run_underlying ht,MapKept.run_getObj_map hb,h1,h3 f L w hL,Result.andThen_ok]
  unfold fh yK
  cases h:jg l L 0 with
  | none =>
    refine⟨fun j=>if j=L.length then z else f j,?_,fun p hp=>?_,fun j p hp=>?_⟩
    · have e:=Na (dy ag f L) (kV ag l,z)
      rw[xd] at e
      have e2:dy ag f L++[(kV ag l,z)]=dy ag (fun j=>if j=L.length then z else f j) (L++[(l,v)]):=by
        unfold dy
        rw[List.mapIdx_append]
        congr 1
        · apply KL
          · simp
          · intro j h5 h6
            have:j<L.length:=by simpa using h5
            simp[lv this]
        · simp
      simp only[oM,hz kt et ht,Result.andThen_ok,MapKept.run_setObj_map _ hb,Sem.run_bind,e,e2,bJ,wD,Sem.run_pure,Option.getD_none,goInt]
    · rcases cy.1 hp with hp | hp
      · exact hL p hp
      · rw[ek.1 hp];exact hl
    · rcases eK j L.length with hj | hj
      · rw[cj hj] at hp
        exact .inr ⟨hp,by dsimp only;rw[if_neg (by omega)]⟩
      · rw[eE hj] at hp
        have:j=L.length:=by
          have:=(aS.1 hp).1
          simp at this;omega
        subst this
        simp only[iC,ss,da.injEq] at hp
        subst hp
        exact .inl ⟨rfl,by dsimp only;rw[if_pos rfl];rfl⟩
  | some q =>
    obtain ⟨_,u,hu⟩:=xe h
    rw[tT] at hu
    have hq:=(aS.1 hu).1
    refine⟨f,?_,fun p hp=>?_,fun j p hp=>?_⟩
    · have Hl:(((fX (dy ag f L))[q]?).map (·.key)).getD (kV ag l)=kV ag l:=by
        simp[fX,rH,hu]
      have Y9:(((fX (dy ag f L))[q]?).map (fun e=>(e.born:Int))).getD 0=(q:Int):=by
        simp[fX,rH,hu]
      have e:=Hi (dy ag f L) q (fun e=>{ e with key:=kV ag l }) (kV ag l,f q) (fun x hx=>by
        rw[rH,hu] at hx
        cases hx
        rfl)
      have e2:(dy ag f L).set q (kV ag l,f q)=dy ag f (L.set q (l,v)):=by
        apply ju
        intro j
        rw[bS,rH,rH,bS,xd]
        by_cases hj:q=j
        · subst hj;simp[hq]
        · rw[if_neg hj,if_neg hj]
      simp only[ed,Hl,h2,Result.andThen_ok,MapKept.run_setObj_map _ hb,Sem.run_bind,Sem.run_pure,Y9,kW,goInt]
      rw[e,e2,bm]
    · rcases rf hp with hp | hp
      · exact hL p hp
      · rw[hp];exact hl
    · simp only[bS] at hp
      by_cases hj:q=j
      · subst hj
        rw[if_pos rfl,if_pos hq] at hp
        cases hp
        exact .inl ⟨rfl,rfl⟩
      · rw[if_neg hj] at hp
        exact .inr ⟨hp,rfl⟩
theorem Y' (iI:List (Value × Value)) {n:Nat} (hn:n<iI.length):(fX iI).findIdx? (fun e=>(e.born:Int) == (n:Int))=some n:=by
  unfold fX
  rw[List.findIdx?_toArray,List.findIdx?_eq_some_iff_getElem]
  refine⟨by simpa using hn,by simp,fun j hj=>?_⟩
  simp only[List.getElem_mapIdx]
  simp;omega
theorem Za {t:TypeId} {ag:Nat} {w:World} {b:Nat} {f:Nat→Value} {L:List (List Int × AV)}
    (hb:w.heap[b]?=some (.map (fX (dy ag f L)) L.length)) {n:Nat} (hn:n<L.length) (v:AV) (cv:Value) :
    (Instr.entryStore t (.map (some b)) (.int .i64 (n:Nat)) cv).run P w=.ok () { w with heap:=w.heap.setIfInBounds b (.map (fX (dy ag (fun j=>if j=n then cv else f j) (oR n v L))) (oR n v L).length) }:=by
  have hf:=Y' (dy ag f L) (n:=n) (by rw[xd];exact hn)
  have e:=Hi (dy ag f L) n (fun e=>{ e with val:=cv }) (kV ag (L.getD n ([],.undef)).1,cv) (fun x hx=>by
    rw[rH,bI hn] at hx
    cases hx
    rw[ay,bI hn];rfl)
  have e2:(dy ag f L).set n (kV ag (L.getD n ([],.undef)).1,cv)=dy ag (fun j=>if j=n then cv else f j) (oR n v L):=by
    unfold oR
    apply ju
    intro j
    rw[bS,rH,rH,bS,xd]
    by_cases hj:n=j
    · subst hj;simp[hn]
    · rw[if_neg hj,if_neg hj,if_neg (Ne.symm hj)]
  simp only[Instr.entryStore,Sem.run_bind,MapKept.run_getObj_map hb,asInt,asIntOf,Sem.run_pure,Result.andThen_ok,hf,MapKept.run_setObj_map _ hb]
  rw[e,e2]
  simp[oR]
theorem Hm {P:Program} {t:TypeId} (h:(ty P t).kind=8) :∃kt,P.underlying t=some (.map kt (ty P t).elem):=by
  unfold ty at h ⊢
  cases hi:P.info? t<;>cases hd:P.underlying t<;>simp[hi,hd] at h ⊢
  rename_i i d
  cases d<;>simp at h ⊢
theorem YL {o:Oper} {σ:St} {K:St→Prop} (hW:b8 P o σ K) {γ:Cx} (h:br σ γ) {a:Act} (ha:γ.tmps=a.tmps) (hd:∀ d,o.dst=some d→d<a.tmps.size) :
    w9 o σ γ a K ((execOp a.eval o).run P γ.w):=by
  obtain ⟨dst,op,type,pos,after,guard⟩:=o
  unfold b8 at hW
  have E:=fun x=>sN h ha x
  cases op
  case move x=>exact dj h ha hd (E x) hW (by simp[execOp])
  case assign x=>exact dj h ha hd (E x) hW (by simp[execOp])
  case pick c x y =>
    simp only at hW
    have hc:=E c
    split at hW
    · rename_i t he
      rw[he] at hc
      have a9:=hc.cH
      refine dj h ha hd (v:=fe t (ev σ x) (ev σ y)) (cv:=if t then a.eval x else a.eval y) ?_ hW (by simp[execOp,a9,asBool])
      unfold fe
      split
      · rename_i x' y' h1 h2
        have hx:=E x
        have hy:=E y
        rw[h1] at hx
        rw[h2] at hy
        rw[hx.cH,hy.cH]
        cases t<;>exact .lit _
      · cases t
        · exact E y
        · exact E x
    · exact hW.elim
  case alloc e =>
    simp only at hW
    obtain ⟨aP,hW⟩:=hW
    split at hW
    · rename_i z hz
      obtain ⟨v,hv,Zb⟩:=Nb aP hz γ.w
      obtain ⟨l1,l2⟩:=Hn (os:=σ.aa) (w:=γ.w) (Z:=γ.Z) (blk:=γ.blk) z
      refine DQ (ob:=.var (z.map .lit)) (v:=.ptr σ.aa.length 0 0) (cv:=.pointer (some ⟨γ.w.heap.size,0,none⟩)) (cap:=0) (cur:=z.toArray) (t:=e) h ha hd ⟨rfl,by simp,l2⟩ ?_ hW ?_
      · exact .mF _ 0 _ 0 _ (C9 ..) (by simp[cL])
      · simp[execOp,Instr.alloc,hv,newVar,newRow,Zb]
    · exact hW.elim
  case box e x =>
    simp only at hW
    obtain ⟨hs,hK⟩:=hW
    obtain ⟨c1,c2,c3⟩:=Ho (E x) hs
    refine DQ (ob:=.var (cellsOf (ev σ x))) (cv:=.pointer (some ⟨γ.w.heap.size,0,none⟩)) (cap:=0) (cur:=(a.eval x).cells) (t:=e) h ha hd ⟨rfl,c1,c2⟩ ?_ hK ?_
    · exact .mF _ 0 _ 0 _ (C9 ..) (by simp[cL])
    · simp[execOp,Instr.box,newVar,newRow]
  case build t parts =>
    simp only at hW
    split at hW
    · rename_i z hk hz
      split at hW
      · rename_i cs hf
        obtain ⟨⟨hs,hp⟩,hK⟩:=hW
        obtain ⟨cur,h1,h2⟩:=Zc h ha hk hz hf hs hp
        exact dj h ha hd h2 hK (by simp only[execOp,Sem.run_bind,h1,Result.andThen_ok,Sem.run_pure])
      · exact hW.elim
    · rename_i z hk hz
      split at hW
      · rename_i cs hf
        obtain ⟨⟨hs,hp⟩,hK⟩:=hW
        obtain ⟨cur,h1,h2⟩:=Zd h ha hk hz hf hs hp
        exact dj h ha hd h2 hK (by simp only[execOp,Sem.run_bind,h1,Result.andThen_ok,Sem.run_pure])
      · exact hW.elim
    · exact hW.elim
  case buildSlice t len parts =>
    simp only at hW
    split at hW
    · rename_i z hk hz
      split at hW
      · rename_i cs hf
        obtain ⟨⟨dW,h0,kf,Ze,hs⟩,hK⟩:=hW
        have ht:=rJ hk
        obtain ⟨i,d,hi,DR,rK,_,hzero⟩:=rL dW
        obtain ⟨zv,Zg,je⟩:=Nb dW hz γ.w
        have DT:0<z.length:=by rw[kf];exact h0
        obtain ⟨hl,hr⟩:=Hp h ha parts
        obtain ⟨cur,f1,f2⟩:=DU (σ:=σ) (γ:=γ) _ _ _ _ cs hl hr (fun p hp=>by
          simp only[List.mem_map] at hp
          obtain ⟨q,hq,rfl⟩:=hp
          rw[List.all_eq_true] at hs
          exact hs q hq) (Hq z len (len * (ty P (ty P t).elem).size) (by rw[kf]) DT) hf
        have agX:cs.length=len * (ty P (ty P t).elem).size:=by
          have:=Hq (os:=σ.aa) (w:=γ.w) (Z:=γ.Z) (blk:=γ.blk) z len (len * (ty P (ty P t).elem).size) (by rw[kf]) DT
          have h1:∀ (parts:List (Nat × AV)) (cs pG:List AV) (place:Nat→Option (Nat × Nat)),lz place cs parts=some pG→pG.length=cs.length:=by
            intro parts
            induction parts with
            | nil=>intro cs pG place h;simp[lz] at h;rw[h]
            | cons p parts ih =>
              intro cs pG place h
              obtain ⟨i,v⟩:=p
              simp only[lz] at h
              split at h
              · simp at h
              · split at h
                · rw[ih _ _ _ h,Hs]
                · simp at h
          rw[h1 _ _ _ _ hf,← this.1]
          simp
        have hmul:len * (ty P (ty P t).elem).size≤16777216:=Ze
        have hlen:len≤maxLen:=by
          have:len * 1≤len * (ty P (ty P t).elem).size:=Nat.mul_le_mul_left _ h0
          unfold maxLen;omega
        have eF:(Instr.buildSlice t len (parts.map fun (i,x)=>(i,a.eval x))).run P γ.w=.ok (.slice (some ⟨γ.w.heap.size,0,none⟩) len len) (γ.w.alloc (.cells cur (ty P t).elem)):=by
          have y6:¬ (len * (ty P (ty P t).elem).size > 2 ^ 24):=by omega
          by_cases hl0:len * (ty P (ty P t).elem).size=0
          · rw[hl0] at f1
            have e0:((Gj 0).map fun x=>(#[]:Array Value)[x % (#[]:Array Value).size]!)=((Gj 0).map (z.toArray[· % z.toArray.size]!)):=by simp
            simp only[Instr.buildSlice,Sem.run_bind,run_underlying ht,Result.andThen_ok,run_sizeOf dW,if_false,hl0,if_true,Sem.run_pure,Nat.not_lt_zero,gt_iff_lt]
            rw[e0,f1]
            simp[newRow]
          simp only[Instr.buildSlice,Sem.run_bind,run_underlying ht,Result.andThen_ok,run_sizeOf dW,y6,if_false,hl0,Zg,Sem.run_pure,je]
          rw[show ((Gj (len * (ty P (ty P t).elem).size)).map fun x=>z.toArray[x % z.toArray.size]!)=((Gj (len * (ty P (ty P t).elem).size)).map (z.toArray[· % z.toArray.size]!)) from rfl,f1]
          simp[newRow]
        refine DQ (ob:=.arr (ty P (ty P t).elem).size (lA (ty P (ty P t).elem).size len cs)) (cv:=.slice (some ⟨γ.w.heap.size,0,none⟩) len len) (cap:=len) (cur:=cur) (t:=(ty P t).elem) h ha hd ?_ ?_ hK ?_
        · refine⟨h0,Nc _ _ _ (by omega),by rw[f2.1];omega,by rw[Ht];omega,hlen,?_⟩
          intro r c v hv
          rw[eR]
          exact f2.2 _ _ (Nf _ _ _ _ _ _ hv)
        · have:=aw.ref (os:=σ.aa++[.arr (ty P (ty P t).elem).size (lA (ty P (ty P t).elem).size len cs)]) (w:=γ.w.alloc (.cells cur (ty P t).elem)) (Z:=γ.Z) (blk:=cL γ.blk σ.aa.length (some (γ.w.heap.size,0,len)))
            σ.aa.length (ty P (ty P t).elem).size 0 len γ.w.heap.size 0 len len _ (by simp;rfl) (by simp[cL]) (by rw[Ht];omega) (by omega) (aH _)
          simpa using this
        · simp only[execOp,Sem.run_bind,eF,Result.andThen_ok,Sem.run_pure]
      · exact hW.elim
    · exact hW.elim
  case load t x =>
    simp only at hW
    obtain ⟨hk,hW⟩:=hW
    have hx:=E x
    split at hW
    · rename_i id r c he
      rw[he] at hx
      split at hW
      · rename_i row a6
        obtain ⟨v,nW,h1,h2,h3⟩:=G9 h hk hx a6 hW
        exact dj h ha hd h2 h3 (by simp only[execOp,Sem.run_bind,h1,Result.andThen_ok,Sem.run_pure])
      · exact hW.elim
    · rename_i cells he
      rw[he] at hx
      obtain ⟨v,nW,h1,h2,h3⟩:=Zh h hk hx hW
      exact dj h ha hd h2 h3 (by simp only[execOp,Sem.run_bind,h1,Result.andThen_ok,Sem.run_pure])
    · exact hW.elim
  case store t x y =>
    simp only at hW
    obtain ⟨hk,hW⟩:=hW
    have hx:=E x
    split at hW
    · rename_i id r c he
      rw[he] at hx
      split at hW
      · rename_i row a6
        obtain ⟨hc,hK⟩:=hW
        obtain ⟨w',h1,h2,h3⟩:=Zi h hk hx a6 (E y) hc
        exact Hu h3 h2 ha hd hK (by simp only[execOp,Sem.run_bind,h1,Result.andThen_ok,Sem.run_pure])
      · exact hW.elim
    · exact hW.elim
  case nilCheck x =>
    simp only at hW
    have hx:=E x
    split at hW
    · rename_i id r c he
      rw[he] at hx
      cases ho:σ.aa[id]? with
      | none=>simp[ho] at hW
      | some ob =>
        have cq:ob≠.gone∧K (σ.put dst (.ptr id r c)):=by cases ob<;>simp[ho] at hW ⊢<;>exact hW
        have a9 :∃ad,a.eval x=.pointer (some ad):=by
          rcases hx.Hg with h | ⟨b,cap,cells,_,_,_,h⟩ | ⟨_,b,o,cap,rows,_,_,h⟩
          · rw[ho] at h;simp at h;exact absurd h cq.1
          · exact⟨_,h⟩
          · exact⟨_,h⟩
        obtain ⟨ad,a9⟩:=a9
        exact dj h ha hd hx cq.2 (by simp[execOp,a9])
    · rename_i cells he
      rw[he] at hx
      have a9 :∃ad,a.eval x=.pointer (some ad):=by
        obtain ⟨b,o,f,h,_⟩:=hx.M'
        exact⟨_,h⟩
      obtain ⟨ad,a9⟩:=a9
      exact dj h ha hd hx hW (by simp[execOp,a9])
    · exact hW.elim
  case binOp op t x y yt =>
    simp only at hW
    have hx:=E x
    have hy:=E y
    split at hW
    · rename_i k p k' q he hf
      rw[he] at hx
      rw[hf] at hy
      obtain ⟨rfl,hW⟩:=hW
      obtain ⟨v,h1,h2⟩:=Zj (P:=P) hW t γ.w
      refine dj h ha hd (.lit v) h2 ?_
      simp[execOp,hx.cH,hy.cH,eqGuard,h1]
    · rename_i p q he hf
      rw[he] at hx
      rw[hf] at hy
      obtain ⟨hk,hW⟩:=hW
      have ht:=Zk hk
      split at hW
      · refine dj h ha hd (.lit _) hW ?_
        simp[execOp,hx.cH,hy.cH,eqGuard,run_eql_bool γ.w t p q ht]
      · refine dj h ha hd (.lit _) hW ?_
        simp[execOp,hx.cH,hy.cH,eqGuard,run_neq_bool γ.w t p q ht,bne]
      · exact hW.elim
    · rename_i sz rows he hf
      rw[he] at hx
      rw[hf] at hy
      obtain ⟨⟨hk,hr⟩,hW⟩:=hW
      have ht:=rJ hk
      rcases hx.wY.inv with ⟨ad,cap,rfl,a9⟩ | ⟨b,o,cap,f,a9,_⟩
      · exact absurd hr (by simp)
      split at hW
      · refine dj h ha hd (.lit _) hW ?_
        simp[execOp,a9,hy.cH,eqGuard,Y3 γ.w t _ _ _ ht]
      · refine dj h ha hd (.lit _) hW ?_
        simp[execOp,a9,hy.cH,eqGuard,Y4 γ.w t _ _ _ ht]
      · exact hW.elim
    · rename_i ad n c he hf
      rw[he] at hx
      rw[hf] at hy
      obtain ⟨hk,hW⟩:=hW
      have ht:=rJ hk
      split at hW
      · refine dj h ha hd (.lit _) hW ?_
        simp[execOp,hx.cH,hy.cH,eqGuard,Y1 γ.w t _ _ _ _ ht]
      · refine dj h ha hd (.lit _) hW ?_
        simp[execOp,hx.cH,hy.cH,eqGuard,Y2 γ.w t _ _ _ _ ht]
      · exact hW.elim
    · rename_i cs ds he hf
      rw[he] at hx
      rw[hf] at hy
      split at hW
      · rename_i as bs A2 Hv
        obtain ⟨⟨hq,hlen,y7⟩,hW⟩:=hW
        have A3:=Hk hx A2
        have xf:=Hk hy Hv
        have heq:=hq γ.w as bs rfl hlen
        split at hW
        · refine dj h ha hd (.lit _) hW ?_
          simp only[execOp,A3,xf,Sem.run_bind,run_eqGuard_agg γ.w _ _ _ _ _ _ y7,run_eql_struct,heq,Result.andThen_ok,Sem.run_pure]
        · refine dj h ha hd (.lit _) hW ?_
          simp only[execOp,A3,xf,Sem.run_bind,run_eqGuard_agg γ.w _ _ _ _ _ _ y7,run_neq_struct,heq,Result.andThen_ok,Sem.run_pure]
        · exact hW.elim
      · exact hW.elim
    · exact hW.elim
  case unOp op t x =>
    simp only at hW
    have hx:=E x
    split at hW
    · rename_i b he
      rw[he] at hx
      exact dj h ha hd (.lit _) hW (by simp[execOp,hx.cH,Op.unary])
    · rename_i k n he
      rw[he] at hx
      exact dj h ha hd (.lit _) hW.2 (by simp[execOp,hx.cH,Op.unary,Op.intArith,vA hW.1])
    · exact hW.elim
  case makeMap t r =>
    simp only at hW
    obtain ⟨⟨rfl,hk⟩,hK⟩:=hW
    refine yY (σ1:={ σ with aa:=σ.aa++[.mp (yJ P t) []] }) (γ1:={ γ with w:=γ.w.alloc (.map #[] 0),blk:=cL γ.blk σ.aa.length (some (γ.w.heap.size,0,0)) })
      (Fr.A4 (cap:=0) _ rfl rfl rfl rfl) (h.A4 (cap:=0) rfl fun os' w' jM hR hb hx=>⟨_,fun _=>Go.undef,hb,hx,by simp,by simp⟩) ha hd
      (v:=.gl σ.aa.length) (cv:=.map (some γ.w.heap.size)) (.gl _ _ _ _ (C9 ..) (by simp[cL])) hK ?_
    simp[execOp,Instr.makeMap,newObj,Sem.run]
  case lookup t x i ok =>
    simp only at hW
    split at hW
    · rename_i ag l id hJ L z gZ mK mL
      obtain ⟨⟨rI,rfl,hl,A5,rfl⟩,hK⟩:=hW
      obtain ⟨kt,ht⟩:=Hm A5
      obtain ⟨_,ho,b,f,hb,a9,jC,hL,jD⟩:=A1 h (E x) mK
      have A6:=Hj (E i) gZ hl
      have hz:∀ A7 xg,P.underlying t=some (.map A7 xg)→(zeroValue xg).run P γ.w=.ok z γ.w:=by
        intro A7 xg h'
        rw[ht] at h'
        cases h'
        unfold zeroV at mL
        split at mL
        · rename_i ii hi
          simp[zeroValue,typeInfo,hi,mL]
        · cases mL
      have eF:=Y5 (P:=P) rI hz jC hL hl
      refine dj (cv:=((jg l L 0).map f).getD z) h ha hd ?_ hK (by simp only[execOp,a9,A6,Sem.run_bind,eF,Result.andThen_ok,Sem.run_pure])
      unfold m0
      cases hf:jg l L 0 with
      | none=>exact .lit z
      | some q =>
        obtain ⟨_,u,hu⟩:=xe hf
        rw[tT] at hu
        simp only[su,hu,ed,kW]
        exact jD q _ hu
    · exact hW.elim
  case mapUpdate t m k x =>
    simp only at hW
    split at hW
    · rename_i ag l id hJ L gZ mK
      obtain ⟨⟨rI,rfl,hl⟩,hK⟩:=hW
      obtain ⟨_,ho,b,f,hb,a9,jC,hL,jD⟩:=A1 h (E m) mK
      have A6:=Hj (E k) gZ hl
      obtain ⟨f',eF,Hw,eN⟩:=Y6 (P:=P) rI jC hL hl (ev σ x) (a.eval x)
      have k7:b<γ.w.heap.size:=(oL.1 jC).1
      refine Hu (σ1:={ σ with aa:=σ.aa.set id (.mp hJ (fh l (ev σ x) L)) }) (γ1:={ γ with w:={ γ.w with heap:=γ.w.heap.setIfInBounds b (.map (fX (dy hJ f' (fh l (ev σ x) L))) (fh l (ev σ x) L).length) } })
        (Fr.write (.mp hJ (fh l (ev σ x) L)) ho (by simp) rfl hb (fun k hk=>by simp[wE (Ne.symm hk)]) (by simp) rfl rfl rfl)
        (h.DV (ob':=.mp hJ (fh l (ev σ x) L)) ho (by simp) rfl hb (fun k hk=>by simp[wE (Ne.symm hk)]) (by simp) fun os' hR=>⟨b,f',hb,by simp[k7],Hw,fun j p hp=>?_⟩) ha hd hK ?_
      · rcases eN j p hp with ⟨h1,h2⟩ | ⟨h1,h2⟩
        · rw[h1,h2];exact hR _ _ (E x)
        · rw[h2];exact hR _ _ (jD j p h1)
      · simp only[execOp,a9,A6,Sem.run_bind,eF,Result.andThen_ok,Sem.run_pure]
    · exact hW.elim
  case mapEntry t m k =>
    simp only at hW
    split at hW
    · rename_i ag l id hJ L z gZ mK mL
      obtain ⟨⟨rI,rfl,hl,A5⟩,hK⟩:=hW
      obtain ⟨kt,ht⟩:=Hm A5
      obtain ⟨_,ho,b,f,hb,a9,jC,hL,jD⟩:=A1 h (E m) mK
      have A6:=Hj (E k) gZ hl
      have hz:∀ A7 xg,P.underlying t=some (.map A7 xg)→(zeroValue xg).run P γ.w=.ok z γ.w:=by
        intro A7 xg h'
        rw[ht] at h'
        cases h'
        unfold zeroV at mL
        split at mL
        · rename_i ii hi
          simp[zeroValue,typeInfo,hi,mL]
        · cases mL
      obtain ⟨f',eF,Hw,eN⟩:=Y8 (P:=P) rI hz jC hL hl
      have k7:b<γ.w.heap.size:=(oL.1 jC).1
      have hold:aw σ.aa γ.w γ.Z γ.blk ((m0 l L).getD (.lit z)) (((jg l L 0).map f).getD z):=by
        unfold m0
        cases hf:jg l L 0 with
        | none=>exact .lit z
        | some q =>
          obtain ⟨_,u,hu⟩:=xe hf
          rw[tT] at hu
          simp only[su,hu,ed,kW]
          exact jD q _ hu
      generalize (m0 l L).getD (.lit z)=v at *
      generalize ((jg l L 0).map f).getD z=cv at *
      have Zl:∀ x y,aw σ.aa γ.w γ.Z γ.blk x y→aw (σ.aa.set id (.mp hJ (fh l v L))) { γ.w with heap:=γ.w.heap.setIfInBounds b (.map (fX (dy hJ f' (fh l v L))) (fh l v L).length) } γ.Z γ.blk x y :=
        h.Y7 (ob':=.mp hJ (fh l v L)) ho (by simp) rfl hb (fun k hk=>by simp[wE (Ne.symm hk)])
      refine yY (σ1:={ σ with aa:=σ.aa.set id (.mp hJ (fh l v L)) }) (γ1:={ γ with w:={ γ.w with heap:=γ.w.heap.setIfInBounds b (.map (fX (dy hJ f' (fh l v L))) (fh l v L).length) } })
        (Fr.write (.mp hJ (fh l v L)) ho (by simp) rfl hb (fun k hk=>by simp[wE (Ne.symm hk)]) (by simp) rfl rfl rfl)
        (h.DV (ob':=.mp hJ (fh l v L)) ho (by simp) rfl hb (fun k hk=>by simp[wE (Ne.symm hk)]) (by simp) fun os' hR=>⟨b,f',hb,by simp[k7],Hw,fun j p hp=>?_⟩) ha hd
        (v:=.bL [v,.lit (.int .i64 (yK l L:Nat))]) (cv:=.tuple #[cv,.int .i64 (yK l L:Nat)]) (.bL _ _ rfl fun j x hx=>?_) hK ?_
      · rcases eN j p hp with ⟨h1,h2⟩ | ⟨h1,h2⟩
        · rw[h1,h2];exact hR _ _ hold
        · rw[h2];exact hR _ _ (jD j p h1)
      · match j,hx with
        | 0,hx=>cases hx;exact Zl _ _ hold
        | 1,hx=>cases hx;exact .lit _
      · simp only[execOp,a9,A6,Sem.run_bind,eF,Result.andThen_ok,Sem.run_pure]
    · exact hW.elim
  case entryStore t m s x =>
    simp only at hW
    split at hW
    · rename_i n id ag L hs mK
      obtain ⟨⟨cV,eM⟩,hK⟩:=hW
      obtain ⟨_,ho,b,f,hb,a9,jC,hL,jD⟩:=A1 h (E m) mK
      have Ng:=E s
      rw[hs] at Ng
      have fL:=Ng.cH
      have hn:n=((n.toNat:Nat):Int):=by omega
      have eF:=Za (P:=P) (t:=t) jC (n:=n.toNat) (by omega) (ev σ x) (a.eval x)
      rw[← hn] at eF
      have k7:b<γ.w.heap.size:=(oL.1 jC).1
      refine Hu (σ1:={ σ with aa:=σ.aa.set id (.mp ag (oR n.toNat (ev σ x) L)) }) (γ1:={ γ with w:={ γ.w with heap:=γ.w.heap.setIfInBounds b (.map (fX (dy ag (fun j=>if j=n.toNat then a.eval x else f j) (oR n.toNat (ev σ x) L))) (oR n.toNat (ev σ x) L).length) } })
        (Fr.write (.mp ag (oR n.toNat (ev σ x) L)) ho (by simp) rfl hb (fun k hk=>by simp[wE (Ne.symm hk)]) (by simp) rfl rfl rfl)
        (h.DV (ob':=.mp ag (oR n.toNat (ev σ x) L)) ho (by simp) rfl hb (fun k hk=>by simp[wE (Ne.symm hk)]) (by simp) fun os' hR=>⟨b,fun j=>if j=n.toNat then a.eval x else f j,hb,by simp only[Array.getElem?_setIfInBounds_self_of_lt k7],fun p hp=>?_,fun j p hp=>?_⟩) ha hd hK ?_
      · unfold oR at hp
        rcases rf hp with hp | hp
        · exact hL p hp
        · have nV:n.toNat<L.length:=by omega
          rw[hp,ay,bI nV]
          exact hL L[n.toNat] (List.getElem_mem nV)
      · unfold oR at hp
        simp only[bS] at hp
        by_cases hj:n.toNat=j
        · subst hj
          rw[if_pos rfl,if_pos (by omega)] at hp
          cases hp
          dsimp only
          rw[if_pos rfl]
          exact hR _ _ (E x)
        · rw[if_neg hj] at hp
          dsimp only
          rw[if_neg (Ne.symm hj)]
          exact hR _ _ (jD j p hp)
      · simp only[execOp,a9,fL,Sem.run_bind,eF,Result.andThen_ok,Sem.run_pure]
    · exact hW.elim
  case index t x i =>
    simp only at hW
    split at hW
    · rename_i s k n hs hi
      obtain ⟨⟨hu,cV,eM⟩,hK⟩:=hW
      have hx:=E x
      rw[hs] at hx
      have hj:=E i
      rw[hi] at hj
      have bj:n.toNat<s.size:=by omega
      have hg:s[n.toNat]?=some s[n.toNat]:=by simp[bj]
      refine dj h ha hd (.lit _) hK ?_
      simp only[execOp,hx.cH,hj.cH,Instr.index,asIntOf,Sem.run_bind,Sem.run_pure,Result.andThen_ok,run_underlying hu,if_pos cV,hg,GN]
    · exact hW.elim
  case makeInterface t x =>
    simp only at hW
    obtain ⟨h1,hK⟩:=hW
    refine dj h ha hd (v:=.gz t (ev σ x)) (cv:=.iface t (a.eval x)) (.gz _ _ _ (E x)) hK ?_
    unfold tW at h1
    cases hu:P.underlying t with
    | none=>simp[hu] at h1
    | some d=>cases d<;>simp[hu] at h1<;>simp[execOp,Instr.makeInterface,run_underlying hu]
  case typeAssert x xt asserted ok =>
    simp only at hW
    have hx:=E x
    split at hW
    · rename_i t v he
      rw[he] at hx
      obtain ⟨cx,hc,hv⟩:=hx.M0
      obtain ⟨⟨h1,rfl,rfl⟩,hK⟩:=hW
      refine dj h ha hd hv hK ?_
      unfold tW at h1
      cases hu:P.underlying t with
      | none=>simp[hu] at h1
      | some d=>cases d<;>simp[hu] at h1<;>simp[execOp,hc,Instr.typeAssert,run_underlying hu]
    · exact hW.elim
  case makeFunc fn first captured =>
    simp only at hW
    split at hW
    · rename_i f
      obtain ⟨hf,hK⟩:=hW
      have Zm:first = #[]:=Array.eq_empty_of_size_eq_zero hf
      subst Zm
      refine dj h ha hd (v:=.fn f (captured.toList.map (ev σ))) (cv:=.func (.func f) #[] (captured.map a.eval)) ?_ hK (by simp[execOp,Instr.makeFunc])
      refine .fn _ _ _ (by simp) (fun j x hj=>?_)
      simp only[bN] at hj
      cases hc:captured.toList[j]? with
      | none=>simp[hc] at hj
      | some y =>
        simp[hc] at hj
        subst hj
        simp only[Ax] at hc
        simp[eQ,hc]
        exact E y
    · exact hW.elim
  case makeSlice t l c =>
    simp only at hW
    have hl:=E l
    have hc:=E c
    split at hW
    · rename_i z k n k' n' hk hz he hf
      rw[he] at hl
      rw[hf] at hc
      obtain ⟨⟨dW,h0,kf,rfl,cV,eM,A8,_⟩,hK,_⟩:=hW
      have ht:=rJ hk
      obtain ⟨i,d,hi,DR,rK,A9,hzero⟩:=rL dW
      obtain ⟨zv,xh,je⟩ :∃zv,i.zero=some zv∧zv.cells=z.toArray:=by
        rw[hzero] at hz
        cases hv:i.zero with
        | none=>simp[hv] at hz
        | some v=>simp[hv] at hz;exact⟨v,rfl,by rw[← hz]⟩
      have hb:(i.bytes:Int) * n'≤281474976710656:=by
        have h1:(i.bytes:Int)≤128:=by rw[← A9];exact_mod_cast A8
        have h2:(i.bytes:Int) * n'≤128 * n':=Int.mul_le_mul_of_nonneg_right h1 cV
        omega
      have hr:=run_make (P:=P) γ.w t _ i zv ht hi xh k k' n' n' cV (Int.le_refl _) hb (by omega)
      rw[← rK,je] at hr
      have DT:0<z.length:=by rw[kf];exact h0
      obtain ⟨z1,z2⟩:=Hq (os:=σ.aa) (w:=γ.w) (Z:=γ.Z) (blk:=γ.blk) z n'.toNat (n'.toNat * (ty P (ty P t).elem).size) (by rw[kf]) DT
      refine DQ (ob:=.arr (ty P (ty P t).elem).size (bq n'.toNat (z.map .lit))) (cv:=.slice (some ⟨γ.w.heap.size,0,none⟩) n'.toNat n'.toNat) (cap:=n'.toNat) (cur:=madeCells z.toArray (n'.toNat * (ty P (ty P t).elem).size)) (t:=(ty P t).elem) h ha hd ?_ ?_ hK ?_
      · refine⟨h0,?_,by rw[size_madeCells];omega,by simp,by unfold maxLen;omega,?_⟩
        · intro row a6
          simp only[List.mem_replicate] at a6
          rw[a6.2];simp[kf]
        · intro r c v hv
          rw[eR]
          have cK:r<n'.toNat:=by
            simp only[cellAt,Option.bind_eq_some_iff] at hv
            obtain ⟨y,hy,_⟩:=hv
            have:=(aS.1 hy).1
            simpa using this
          simp only[cellAt,List.getElem?_replicate,cK,if_true,su] at hv
          have ca:c<(ty P (ty P t).elem).size:=by
            have:=(aS.1 hv).1
            simp at this;omega
          have bj:=wZ cK ca
          have hx:((aT n'.toNat).flatMap fun _=>z.map AV.lit)[r * (ty P (ty P t).elem).size+c]?=some v:=by
            have key:∀ (m r:Nat),r<m→((aT m).flatMap fun _=>z.map AV.lit)[r * z.length+c]?=(z.map AV.lit)[c]?:=by
              intro m
              have hlen:∀ m,((aT m).flatMap fun _=>z.map AV.lit).length=m * z.length:=by
                intro m
                induction m with
                | zero=>simp
                | succ m ih=>rw[vf,oN,bJ,ih];simp[e9]
              induction m with
              | zero=>intro r hr;omega
              | succ m ih =>
                intro r hr
                rw[vf,oN]
                by_cases y8:r<m
                · rw[cj (by rw[hlen,kf];exact wZ y8 ca)]
                  exact ih r y8
                · have:r=m:=by omega
                  subst this
                  rw[eE (by rw[hlen];omega),hlen]
                  simp
            rw[← kf,key _ _ cK]
            exact hv
          exact z2 _ _ hx
      · have:=aw.ref (os:=σ.aa++[.arr (ty P (ty P t).elem).size (bq n'.toNat (z.map .lit))]) (w:=γ.w.alloc (.cells (madeCells z.toArray (n'.toNat * (ty P (ty P t).elem).size)) (ty P t).elem)) (Z:=γ.Z) (blk:=cL γ.blk σ.aa.length (some (γ.w.heap.size,0,n'.toNat)))
          σ.aa.length (ty P (ty P t).elem).size 0 n'.toNat γ.w.heap.size 0 n'.toNat n'.toNat _ (C9 ..) (by simp[cL]) (by simp) (by omega) (aH _)
        simpa using this
      · simp only[execOp,Sem.run_bind,hl.cH,hc.cH,hr,Result.andThen_ok,Sem.run_pure]
    · exact hW.elim
  case fieldAddr s x f =>
    simp only at hW
    have hx:=E x
    split at hW
    · rename_i off ft size hk eW
      obtain ⟨aW,hW⟩:=hW
      obtain ⟨fs,hu,um⟩:=Hx hk
      obtain ⟨fd,DW,wM,k8⟩ :∃fd:Field,fs[f]?=some fd∧fd.offset=off∧uo P fd.type=size:=by
        rw[um] at eW
        simp only[bN,Ax] at eW
        cases hg:fs[f]? with
        | none=>simp[hg] at eW
        | some fd=>simp[hg] at eW;exact⟨fd,rfl,eW.1,eW.2.2⟩
      have eF:∀ (b o:Nat),(Instr.fieldAt s (.pointer (some ⟨b,o,none⟩)) f).run P γ.w=.ok (.pointer (some ⟨b,o+off,none⟩)) γ.w:=by
        intro b o
        have Zn:(sizeOf fd.type).run P γ.w=.ok size γ.w:=by
          rw[← k8]
          unfold uo at k8 ⊢
          cases hi:P.info? fd.type with
          | none=>rw[hi] at k8;simp at k8;omega
          | some i=>simp[sizeOf,typeInfo,hi]
        have dL:¬ size=0:=by omega
        simp[Instr.fieldAt,run_underlying hu,DW,Instr.sureAddr,fieldPlace,Zn,dL,Addr.qy,wM]
      split at hW
      · rename_i id r c he
        rw[he] at hx
        cases ho:σ.aa[id]? with
        | none=>simp[ho] at hW
        | some ob =>
          have cq:ob≠.gone∧K (σ.put dst (.ptr id r (c+off))):=by cases ob<;>simp[ho] at hW ⊢<;>exact hW
          rcases hx.Hg with hg | ⟨b,cap,cells,h1,h2,rfl,a9⟩ | ⟨sz,b,o,cap,rows,h1,h2,a9⟩
          · rw[ho] at hg;simp at hg;exact absurd hg cq.1
          · exact dj h ha hd (.mF id (c+off) b cap cells h1 h2) cq.2 (by simp only[execOp,Sem.run_bind,a9,eF,Result.andThen_ok,Sem.run_pure])
          · refine dj h ha hd (.m9 id r (c+off) sz b o cap rows h1 h2) cq.2 ?_
            simp only[execOp,Sem.run_bind,a9,eF,Result.andThen_ok,Sem.run_pure]
            simp[vg]
      · rename_i cells he
        rw[he] at hx
        obtain ⟨b,o,g,a9,h1,h2,h3⟩:=hx.M'
        refine dj h ha hd (.db (cells.drop off) b (o+off) (fun j=>g (off+j)) h1 ?_ ?_) hW ?_
        · intro j x hj
          rw[nI] at hj
          have:=h2 _ _ hj
          simpa [vg] using this
        · intro j x hj
          rw[nI] at hj
          exact h3 _ _ hj
        · simp only[execOp,Sem.run_bind,a9,eF,Result.andThen_ok,Sem.run_pure]
      · exact hW.elim
    · exact hW.elim
  case extract x i =>
    simp only at hW
    have hx:=E x
    split at hW
    · rename_i vs he
      rw[he] at hx
      obtain ⟨aY,a9,hs,hr⟩:=hx.MO
      split at hW
      · rename_i v hv
        have hi:i<aY.size:=by rw[hs];exact (aS.1 hv).1
        refine dj h ha hd (hr i v hv) hW ?_
        simp[execOp,a9,Instr.extract,hi,eQ]
      · exact hW.elim
    · exact hW.elim
  case field s x f =>
    simp only at hW
    have hx:=E x
    split at hW
    · rename_i off ft size hk eW
      obtain ⟨dW,rK,hW⟩:=hW
      obtain ⟨fs,hu,um⟩:=Hx hk
      obtain ⟨fd,DW,wM,k8⟩ :∃fd:Field,fs[f]?=some fd∧fd.offset=off∧fd.type=ft:=by
        rw[um] at eW
        simp only[bN,Ax] at eW
        cases hg:fs[f]? with
        | none=>simp[hg] at eW
        | some fd=>simp[hg] at eW;exact⟨fd,rfl,eW.1,eW.2.1⟩
      subst wM
      subst k8
      split at hW
      · rename_i cs he
        rw[he] at hx
        obtain ⟨aY,a9,hs,hr⟩:=hx.MN
        split at hW
        · rename_i jN
          refine dj h ha hd (v:=.agg ((cs.drop fd.offset).take size)) (cv:=.agg (aY.extract fd.offset (fd.offset+size))) ?_ hW.2 ?_
          · have h1:=hW.1
            refine .agg _ _ (by simp;omega) (fun j y hj=>?_)
            have kZ:j<size:=by have:=(aS.1 hj).1;simp at this;omega
            rw[sv,if_pos kZ,nI] at hj
            have:=hr _ _ hj
            simp[eQ,Array.getElem?_extract] at this ⊢
            rw[if_pos (by omega)]
            exact this
          · simp[execOp,a9,Instr.field,run_underlying hu,DW,asAgg,part,Hy dW,run_sizeOf dW,jN,rK]
        · rename_i jN
          split at hW
          · rename_i v hv
            have hi:fd.offset<aY.size:=by rw[hs];exact (aS.1 hv).1
            refine dj h ha hd (hr _ v hv) hW ?_
            simp[execOp,a9,Instr.field,run_underlying hu,DW,asAgg,part,Hy dW,jN,hi,eQ]
          · exact hW.elim
      · exact hW.elim
    · exact hW.elim
  case indexAddr t x i =>
    simp only at hW
    have hx:=E x
    have hi:=E i
    split at hW
    · rename_i id sz off len k n hk he hf
      rw[he] at hx
      rw[hf] at hi
      split at hW
      · rename_i cJ rows ho
        obtain ⟨⟨rfl,aW,dW,h0,h1⟩,hK⟩:=hW
        have ht:=rJ hk
        rcases hx.Hh with hg | ⟨_,_,_,rfl,_⟩ | ⟨rfl,_⟩ | ⟨b,o,cap,cap',fT,g1,g2,g3,g4,g5,a9⟩
        · rw[ho] at hg;simp at hg
        · omega
        · omega
        · refine dj h ha hd (.m9 id (off+n.toNat) 0 _ b o cap fT g1 g2) hK ?_
          have hc:0≤n∧n<(len:Int):=⟨h0,h1⟩
          simp only[execOp,Sem.run_bind,Instr.indexAt,a9,hi.cH,asIntOf,Sem.run_pure,Result.andThen_ok,run_underlying ht,Sem.run_ite,hc,and_self,if_true,run_sizeOf dW,← aW,Addr.qy]
          simp[e9,vg]
      · exact hW.elim
    · rename_i sz rows k n hk he hf
      rw[he] at hx
      rw[hf] at hi
      obtain ⟨⟨aW,dW,h0,h1⟩,hK⟩:=hW
      have ht:=rJ hk
      rcases hx.wY.inv with ⟨ad,cap,rfl,a9⟩ | ⟨b,o,cap,f,a9,g1,g2,g3,g4,g5⟩
      · simp at h1;omega
      · have hn:n.toNat<rows.length:=by omega
        refine dj h ha hd (.db (rows.getD n.toNat []) b (o+n.toNat * sz) (fun j=>f n.toNat j) g1 ?_ ?_) hK ?_
        · intro j y hj
          have:cellAt rows n.toNat j=some y:=by
            rw[ay] at hj
            simp[hn] at hj
            simp[cellAt,hn,hj]
          have:=g4 _ _ _ this
          simpa [vg] using this
        · intro j y hj
          have:cellAt rows n.toNat j=some y:=by
            rw[ay] at hj
            simp[hn] at hj
            simp[cellAt,hn,hj]
          exact g5 _ _ _ this
        · have hc:0≤n∧n<(rows.length:Int):=⟨h0,by omega⟩
          simp only[execOp,Sem.run_bind,Instr.indexAt,a9,hi.cH,asIntOf,Sem.run_pure,Result.andThen_ok,run_underlying ht,Sem.run_ite,hc,and_self,if_true,run_sizeOf dW,← aW,Addr.qy]
    · rename_i id r c k n hk he hf
      rw[he] at hx
      rw[hf] at hi
      cases ho:σ.aa[id]? with
      | none=>simp[ho] at hW
      | some ob =>
        have cq:ob≠.gone∧((ty P (ty P t).elem).kind≠99∧0≤n∧n<(ty P t).len)∧K (σ.put dst (.ptr id r (c+n.toNat * (ty P (ty P t).elem).size))):=by cases ob<;>simp[ho] at hW ⊢<;>exact hW
        obtain ⟨ni,⟨dW,h0,h1⟩,hK⟩:=cq
        have ht:=Nh hk
        have hc:0≤n∧n<((ty P t).len:Int):=⟨h0,h1⟩
        rcases hx.Hg with hg | ⟨b,cap,cells,h1,h2,rfl,a9⟩ | ⟨sz,b,o,cap,rows,h1,h2,a9⟩
        · rw[ho] at hg;simp at hg;exact absurd hg ni
        · refine dj h ha hd (.mF id _ b cap cells h1 h2) hK ?_
          simp only[execOp,Sem.run_bind,Instr.indexAt,a9,hi.cH,asIntOf,Sem.run_pure,Result.andThen_ok,run_underlying ht,Instr.sureAddr,Sem.run_ite,hc,and_self,if_true,run_sizeOf dW,Addr.qy]
        · refine dj h ha hd (.m9 id r _ sz b o cap rows h1 h2) hK ?_
          simp only[execOp,Sem.run_bind,Instr.indexAt,a9,hi.cH,asIntOf,Sem.run_pure,Result.andThen_ok,run_underlying ht,Instr.sureAddr,Sem.run_ite,hc,and_self,if_true,run_sizeOf dW,Addr.qy]
          simp[vg]
    · exact hW.elim
  case slice t x lo hi mx =>
    simp only at hW
    obtain ⟨hk,dW,rfl,hW⟩:=hW
    have ht:=rJ hk
    have hx:=E x
    have eF:∀ (ad:Option Addr) (len cap l h:Nat) (lo hi:Option Value),(lo=none∧l=0∨∃ k,lo=some (.int k (l:Int)))→(hi=none∧h=len∨∃ k,hi=some (.int k (h:Int)))→l≤h→h≤cap →
        (ty P (ty P t).elem).kind≠99→(Instr.sliceAt t (.slice ad len cap) lo hi none).run P γ.w=.ok (.slice (if cap=l then ad else ad.map (·.add (l * (ty P (ty P t).elem).size))) (h - l) (cap - l)) γ.w:=by
      intro ad len cap l h lo hi jf nj h1 h2 dW
      have c1:(l:Int)≤h:=by omega
      have c2:(h:Int)≤cap:=by omega
      rcases jf with ⟨rfl,rfl⟩ | ⟨k,rfl⟩<;>rcases nj with ⟨rfl,rfl⟩ | ⟨k',rfl⟩ <;>
        simp[Instr.sliceAt,Instr.slice,Instr.sliceBounds,Instr.sliceBound,asIntOf,run_underlying ht,run_sizeOf dW,h1,h2]
    split at hW
    · rename_i id sz off len he
      rw[he] at hx
      split at hW
      · rename_i cJ rows ho
        obtain ⟨rfl,aW,hW⟩:=hW
        obtain ⟨h0,cK,_⟩:=h.er _ _ ho
        have key:∀ (l hh:Nat) (kH hi':Option Operand),(kH.map a.eval=none∧l=0∨∃ k,kH.map a.eval=some (.int k (l:Int)))→(hi'.map a.eval=none∧hh=len∨∃ k,hi'.map a.eval=some (.int k (hh:Int)))→l≤hh→hh≤len →
            K (σ.put dst (.ref id cJ (off+l) (hh - l)))→w9 ⟨dst,.slice t x kH hi' none,type,pos,after,guard⟩ σ γ a K ((execOp a.eval ⟨dst,.slice t x kH hi' none,type,pos,after,guard⟩).run P γ.w):=by
          intro l hh kH hi' jf nj h1 h2 hK
          rcases hx.Hh with hg | ⟨g1,g2,rfl,rfl,a9⟩ | ⟨rfl,b,xx,bo,fT,g1,g2,g3,a9⟩ | ⟨b,o,cap,cap',fT,g1,g2,g3,g4,g5,a9⟩
          · rw[ho] at hg;simp at hg
          · have:l=0:=by omega
            subst this
            have:hh=0:=by omega
            subst this
            refine dj (o:=⟨dst,.slice t x kH hi' none,type,pos,after,guard⟩) h ha hd (.lC id _ g1 g2) hK ?_
            have:=eF none 0 0 0 0 _ _ jf nj (by omega) (by omega) dW
            simp only[execOp,Sem.run_bind,a9,oM,this,Result.andThen_ok,Sem.run_pure]
            simp
          · have:l=0:=by omega
            subst this
            have:hh=0:=by omega
            subst this
            refine dj (o:=⟨dst,.slice t x kH hi' none,type,pos,after,guard⟩) h ha hd (.lV id _ _ b xx bo fT g1 g2 (by omega)) hK ?_
            have:=eF (some ⟨b,xx,none⟩) 0 0 0 0 _ _ jf nj (by omega) (by omega) dW
            simp only[execOp,Sem.run_bind,a9,oM,this,Result.andThen_ok,Sem.run_pure]
            simp
          · have hr:=eF (some ⟨b,o+off * cJ,none⟩) len cap' l hh _ _ jf nj h1 (by omega) dW
            by_cases hm:cap'=l
            · have e1:hh=l:=by omega
              subst e1
              rw[if_pos hm] at hr
              have e2:hh - hh=0:=by omega
              have e3:cap' - hh=0:=by omega
              rw[e2,e3] at hr
              rw[e2] at hK
              refine dj (o:=⟨dst,.slice t x kH hi' none,type,pos,after,guard⟩) h ha hd (.lV id _ _ b (o+off * cJ) (o,cap) fT g1 g2 (by omega)) hK ?_
              simp only[execOp,Sem.run_bind,a9,oM,hr,Result.andThen_ok,Sem.run_pure]
            · rw[if_neg hm] at hr
              refine dj (o:=⟨dst,.slice t x kH hi' none,type,pos,after,guard⟩) h ha hd (.ref id _ (off+l) (hh - l) b o cap (cap' - l) fT g1 g2 (by omega) (by omega) (by omega)) hK ?_
              simp only[execOp,Sem.run_bind,a9,oM,hr,Result.andThen_ok,Sem.run_pure,ed,Addr.qy,← aW]
              simp[e9,vg]
        split at hW
        · rename_i e1 e2
          have jf:lo=none:=by cases lo<;>simp at e1 ⊢
          have nj:hi=none:=by cases hi<;>simp at e2 ⊢
          subst jf;subst nj
          exact key 0 len none none (.inl ⟨rfl,rfl⟩) (.inl ⟨rfl,rfl⟩) (by omega) (aH _) (by simpa using hW)
        · rename_i k l e1 e2
          have nj:hi=none:=by cases hi<;>simp at e2 ⊢
          subst nj
          obtain ⟨lo,rfl,f1⟩ :∃y,lo=some y∧ev σ y=.lit (.int k l):=by cases lo<;>simp at e1 ⊢;exact e1
          obtain ⟨⟨c1,c2,_⟩,hK⟩:=hW
          have hl:=E lo
          rw[f1] at hl
          refine key l.toNat len (some lo) none (.inr ⟨k,?_⟩) (.inl ⟨rfl,rfl⟩) (by omega) (aH _) hK
          simp[hl.cH];omega
        · rename_i k hh e1 e2
          have jf:lo=none:=by cases lo<;>simp at e1 ⊢
          subst jf
          obtain ⟨hi,rfl,f2⟩ :∃y,hi=some y∧ev σ y=.lit (.int k hh):=by cases hi<;>simp at e2 ⊢;exact e2
          obtain ⟨⟨c1,c2⟩,hK⟩:=hW
          have hl:=E hi
          rw[f2] at hl
          refine key 0 hh.toNat none (some hi) (.inl ⟨rfl,rfl⟩) (.inr ⟨k,?_⟩) (by omega) (by omega) (by simpa using hK)
          simp[hl.cH];omega
        · rename_i k l k' hh e1 e2
          obtain ⟨lo,rfl,f1⟩ :∃y,lo=some y∧ev σ y=.lit (.int k l):=by cases lo<;>simp at e1 ⊢;exact e1
          obtain ⟨hi,rfl,f2⟩ :∃y,hi=some y∧ev σ y=.lit (.int k' hh):=by cases hi<;>simp at e2 ⊢;exact e2
          obtain ⟨⟨c1,c2,c3⟩,hK⟩:=hW
          have hl:=E lo
          have pK:=E hi
          rw[f1] at hl
          rw[f2] at pK
          refine key l.toNat hh.toNat (some lo) (some hi) (.inr ⟨k,?_⟩) (.inr ⟨k',?_⟩) (by omega) (by omega) hK
          · simp[hl.cH];omega
          · simp[pK.cH];omega
        · exact hW.elim
      · exact hW.elim
    · rename_i sz rows he
      rw[he] at hx
      obtain ⟨aW,hW⟩:=hW
      have key:∀ (l hh:Nat) (kH hi':Option Operand),(kH.map a.eval=none∧l=0∨∃ k,kH.map a.eval=some (.int k (l:Int)))→(hi'.map a.eval=none∧hh=rows.length∨∃ k,hi'.map a.eval=some (.int k (hh:Int)))→l≤hh→hh≤rows.length →
          K (σ.put dst (.tree sz ((rows.drop l).take (hh - l))))→w9 ⟨dst,.slice t x kH hi' none,type,pos,after,guard⟩ σ γ a K ((execOp a.eval ⟨dst,.slice t x kH hi' none,type,pos,after,guard⟩).run P γ.w):=by
        intro l hh kH hi' jf nj h1 h2 hK
        rcases hx.wY.inv with ⟨ad,cap,rfl,a9⟩ | ⟨b,o,cap,f,a9,g1,g2,g3,g4,g5⟩
        · have e1:hh=0:=by simpa using h2
          subst e1
          have e2:l=0:=by omega
          subst e2
          have hr:=eF ad 0 cap 0 0 _ _ jf nj (by omega) (by omega) dW
          refine dj (o:=⟨dst,.slice t x kH hi' none,type,pos,after,guard⟩) h ha hd (v:=.tree sz (([].drop 0).take (0 - 0))) (cv:=.slice (if cap=0 then ad else ad.map (·.add (0 * (ty P (ty P t).elem).size))) (0 - 0) (cap - 0)) (.cd _ _ (.nil sz (cap - 0) _)) hK ?_
          simp only[execOp,Sem.run_bind,a9,oM,hr,Result.andThen_ok,Sem.run_pure]
        · have hr:=eF (some ⟨b,o,none⟩) rows.length cap l hh _ _ jf nj h1 (by omega) dW
          by_cases nk:hh - l=0
          · have e:(rows.drop l).take (hh - l)=[]:=by rw[nk];simp
            rw[e] at hK
            rw[nk] at hr
            refine dj (o:=⟨dst,.slice t x kH hi' none,type,pos,after,guard⟩) h ha hd (v:=.tree sz []) (cv:=.slice (if cap=l then some ⟨b,o,none⟩ else (some (⟨b,o,none⟩:Addr)).map (·.add (l * (ty P (ty P t).elem).size))) 0 (cap - l)) (.cd _ _ (.nil sz (cap - l) _)) hK ?_
            simp only[execOp,Sem.run_bind,a9,oM,hr,Result.andThen_ok,Sem.run_pure]
          · have dL:¬ cap=l:=by omega
            rw[if_neg dL] at hr
            have Zo:rows≠[]:=by intro e;subst e;simp at h2;omega
            refine dj (o:=⟨dst,.slice t x kH hi' none,type,pos,after,guard⟩) h ha hd (.cd _ _ (gy.sub g1 g2 g4 g5 l (hh - l) (cap':=cap - l) (by omega) g3 (by omega))) hK ?_
            simp only[execOp,Sem.run_bind,a9,oM,hr,Result.andThen_ok,Sem.run_pure,ed,Addr.qy,← aW Zo]
      split at hW
      · rename_i e1 e2
        have jf:lo=none:=by cases lo<;>simp at e1 ⊢
        have nj:hi=none:=by cases hi<;>simp at e2 ⊢
        subst jf;subst nj
        exact key 0 rows.length none none (.inl ⟨rfl,rfl⟩) (.inl ⟨rfl,rfl⟩) (by omega) (aH _) (by simpa using hW)
      · rename_i k l e1 e2
        have nj:hi=none:=by cases hi<;>simp at e2 ⊢
        subst nj
        obtain ⟨lo,rfl,f1⟩ :∃y,lo=some y∧ev σ y=.lit (.int k l):=by cases lo<;>simp at e1 ⊢;exact e1
        obtain ⟨⟨c1,c2⟩,hK⟩:=hW
        have hl:=E lo
        rw[f1] at hl
        refine key l.toNat rows.length (some lo) none (.inr ⟨k,?_⟩) (.inl ⟨rfl,rfl⟩) (by omega) (aH _) ?_
        · simp[hl.cH];omega
        · have e:(rows.drop l.toNat).take (rows.length - l.toNat)=rows.drop l.toNat:=List.take_of_length_le (by simp)
          rw[e];exact hK
      · rename_i k hh e1 e2
        have jf:lo=none:=by cases lo<;>simp at e1 ⊢
        subst jf
        obtain ⟨hi,rfl,f2⟩ :∃y,hi=some y∧ev σ y=.lit (.int k hh):=by cases hi<;>simp at e2 ⊢;exact e2
        obtain ⟨⟨c1,c2⟩,hK⟩:=hW
        have hl:=E hi
        rw[f2] at hl
        refine key 0 hh.toNat none (some hi) (.inl ⟨rfl,rfl⟩) (.inr ⟨k,?_⟩) (by omega) (by omega) (by simpa using hK)
        simp[hl.cH];omega
      · rename_i k l k' hh e1 e2
        obtain ⟨lo,rfl,f1⟩ :∃y,lo=some y∧ev σ y=.lit (.int k l):=by cases lo<;>simp at e1 ⊢;exact e1
        obtain ⟨hi,rfl,f2⟩ :∃y,hi=some y∧ev σ y=.lit (.int k' hh):=by cases hi<;>simp at e2 ⊢;exact e2
        obtain ⟨⟨c1,c2,c3⟩,hK⟩:=hW
        have hl:=E lo
        have pK:=E hi
        rw[f1] at hl
        rw[f2] at pK
        refine key l.toNat hh.toNat (some lo) (some hi) (.inr ⟨k,?_⟩) (.inr ⟨k',?_⟩) (by omega) (by omega) ?_
        · simp[hl.cH];omega
        · simp[pK.cH];omega
        · rw[← List.drop_take];exact hK
      · exact hW.elim
    · exact hW.elim
  case call c =>
    obtain ⟨callee,args,argTypes⟩:=c
    have mC:∀ l,args.toList=l→args=l.toArray:=by intro l h;rw[← h]
    have DX:∀ l,argTypes.toList=l→argTypes=l.toArray:=by intro l h;rw[← h]
    cases callee with
    | value f=>exact hW.elim
    | invoke r m=>exact hW.elim
    | builtin b =>
      cases b
      case len =>
        simp only at hW
        split at hW
        · rename_i x t cX jK
          have ea:=mC _ cX
          have et:=DX _ jK
          subst ea
          subst et
          have hx:=E x
          have eF:(ty P t).kind=1→∀ ad n c,a.eval x=.slice ad n c→(execOp a.eval ⟨dst,.call ⟨.builtin .len,[x].toArray,[t].toArray⟩,type,pos,after,guard⟩).run P γ.w=.ok (.value (.int .i64 (n:Int))) γ.w:=by
            intro hk ad n c hc
            have ht:=rJ hk
            simp[execOp,resolve,invoke,builtin,Builtin.len_,run_underlying ht,hc,goInt]
          split at hW
          · rename_i id sz off len he
            rw[he] at hx
            obtain ⟨hk,hW⟩:=hW
            split at hW
            · rename_i cJ rows ho
              rcases hx.Hh with hg | ⟨_,_,_,rfl,a9⟩ | ⟨rfl,_,_,_,_,_,_,_,a9⟩ | ⟨b,o,cap,cap',fT,g1,g2,g3,g4,g5,a9⟩
              · rw[ho] at hg;simp at hg
              · exact dj h ha hd (.lit _) hW.2 (eF hk _ _ _ a9)
              · exact dj h ha hd (.lit _) hW.2 (eF hk _ _ _ a9)
              · exact dj h ha hd (.lit _) hW.2 (eF hk _ _ _ a9)
            · exact hW.elim
          · rename_i sz rows he
            rw[he] at hx
            rcases hx.wY.inv with ⟨ad,cap,rfl,a9⟩ | ⟨b,o,cap,f,a9,_⟩
            · exact dj h ha hd (.lit _) hW.2 (eF hW.1 _ _ _ a9)
            · exact dj h ha hd (.lit _) hW.2 (eF hW.1 _ _ _ a9)
          · rename_i he
            rw[he] at hx
            exact dj h ha hd (.lit _) hW.2 (eF hW.1 _ _ _ hx.cH)
          · rename_i id he
            obtain ⟨hk,hW⟩:=hW
            split at hW
            · rename_i ag L ho
              obtain ⟨kt,ht⟩:=Hm hk
              rw[he] at hx
              obtain ⟨_,_,b,f,hb,a9,jC,_⟩:=A1 h hx (id:=id) (ag:=ag) (L:=L) (by simp[kY,ho])
              refine dj h ha hd (.lit _) hW ?_
              simp[execOp,resolve,invoke,builtin,Builtin.len_,run_underlying ht,a9,goInt,MapKept.run_getObj_map jC,fX,xd]
            · exact hW.elim
          · exact hW.elim
        · exact hW.elim
      case append =>
        simp only at hW
        split at hW
        · rename_i s x t t' cX jK
          have ea:=mC _ cX
          have et:=DX _ jK
          subst ea
          subst et
          split at hW
          · rename_i z pre σ1 sz src hk hz AZ rF
            obtain ⟨⟨rfl,dW,aW,h0,kf,hlen,A8,lY⟩,hK⟩:=hW
            have Zp:pE σ sz (ev σ s)=some (pre,σ1):=by rw[aW];exact AZ
            obtain ⟨nW,γ1,h1,h2,h3,h4,h5⟩:=Zq (P:=P) (oty:=type) h hk dW hz aW h0 kf (E s) (E x) Zp rF hlen A8 lY
            refine yY (γ1:=γ1) h4 h3 (by rw[h2];exact ha) hd h5 hK ?_
            simp[execOp,resolve,invoke,builtin,h1]
          · exact hW.elim
        · exact hW.elim
      case min =>
        simp only at hW
        split at hW
        · rename_i x y cX
          have ea:=mC _ cX
          subst ea
          have hx:=E x
          have hy:=E y
          split at hW
          · rename_i k p k' q he hf
            rw[he] at hx
            rw[hf] at hy
            obtain ⟨rfl,hK⟩:=hW
            refine dj h ha hd (.lit _) hK ?_
            have e:(if q<p then q else p)=min p q:=by simp only[Int.min_def];split<;>split<;>omega
            simp[execOp,resolve,invoke,builtin,Builtin.min_,Builtin.min2,hx.cH,hy.cH,e]
          · exact hW.elim
        · exact hW.elim
      case max =>
        simp only at hW
        split at hW
        · rename_i x y cX
          have ea:=mC _ cX
          subst ea
          have hx:=E x
          have hy:=E y
          split at hW
          · rename_i k p k' q he hf
            rw[he] at hx
            rw[hf] at hy
            obtain ⟨rfl,hK⟩:=hW
            refine dj h ha hd (.lit _) hK ?_
            have e:(if q > p then q else p)=max p q:=by simp only[Int.max_def];split<;>split<;>omega
            simp[execOp,resolve,invoke,builtin,Builtin.max_,Builtin.max2,hx.cH,hy.cH,e]
          · exact hW.elim
        · exact hW.elim
      case copy =>
        simp only at hW
        split at hW
        · rename_i s x t t' cX jK
          have ea:=mC _ cX
          have et:=DX _ jK
          subst ea
          subst et
          have hs:=E s
          split at hW
          · rename_i id sz off len cJ src he rF
            rw[he] at hs
            split at hW
            · rename_i j8 rows ho
              obtain ⟨⟨hk,dW,rfl,rfl,aW,h0,lY⟩,hK⟩:=hW
              obtain ⟨w',h1,h2,h3⟩:=Zr (P:=P) (t':=t') (oty:=type) h hk dW aW h0 hs (E x) ho rF lY
              refine yY (γ1:={ γ with w:=w' }) h3 h2 ha hd (.lit _) hK ?_
              simp[execOp,resolve,invoke,builtin,h1]
            · exact hW.elim
          · exact hW.elim
        · exact hW.elim
      case clear =>
        simp only at hW
        split at hW
        · rename_i s t cX jK
          have ea:=mC _ cX
          have et:=DX _ jK
          subst ea
          subst et
          have hs:=E s
          split at hW
          · rename_i id sz off len z he hz
            rw[he] at hs
            split at hW
            · rename_i cJ rows ho
              obtain ⟨⟨hk,dW,rfl,kf,h0,DY⟩,hK⟩:=hW
              obtain ⟨w',h1,h2,h3⟩:=Zs (P:=P) (oty:=type) h hk dW kf h0 hz DY hs ho
              refine yY (γ1:={ γ with w:=w' }) h3 h2 ha hd (.lit _) hK ?_
              simp[execOp,resolve,invoke,builtin,h1]
            · exact hW.elim
          · exact hW.elim
        · exact hW.elim
      all_goals exact hW.elim
  case convert s d x =>
    simp only at hW
    have hx:=E x
    split at hW
    · rename_i k k' n rA he
      rw[he] at hx
      obtain ⟨hu,hK⟩:=hW
      obtain ⟨u,hu⟩:=Option.isSome_iff_exists.1 hu
      refine dj h ha hd (.lit _) hK ?_
      simp[execOp,convert,run_underlying hu,run_underlying rA,hx.cH,Conv.intToInt]
    · exact hW.elim
  all_goals exact hW.elim
end Go.Am

