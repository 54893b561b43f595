import Derived.Test.YtdipcmigdbnheaaGreatX01
import Derived.MapKept
import Derived.Laws.StructEq
set_option linter.unusedVariables false
set_option linter.unusedSimpArgs false
set_option linter.unnecessarySimpa false
set_option linter.unusedSectionVars false
set_option maxHeartbeats 64000000
set_option maxRecDepth 20000
open List renaming getElem?_take→tn,getElem?_drop→mX,getElem?_set→bO,getElem?_eq_some_iff→aY,ext_getElem→G5,length_append→bU,length_singleton→xN,mem_append→dh,mem_singleton→ee,getElem?_append_left→dH,getElem?_append_right→fA,getElem?_cons_zero→uK,ext_getElem?→km,length_set→bF,mem_or_eq_of_mem_set→pY,getElem?_eq_getElem→bm,getD_eq_getElem?_getD→ay,getElem?_concat_length→D2,getElem?_map→bR,replicate→aW,range→bn,range_succ→vW,flatMap_append→po
open Nat renaming add_mul→fC,le_refl→aV,sub_self→iz,ne_of_lt→lY,lt_or_ge→dG,sub_zero→rV,zero_add→eK,add_assoc→vX
open Option renaming some→dw,map_some→eC,map_none→pX,getD_some→gw,bind_some→xJ
open Array renaming range→G7,getElem?_eq_some_iff→pk,getElem?_setIfInBounds_ne→xO,getElem?_toList→BC,getD_eq_getD_getElem?→eY
namespace Go.Am
theorem aaw {P:Program} (w:World) (t e:TypeId) (a:Option Addr) (n c:Nat) (ht:P.underlying t=some (.slice e)) :
    (binOp .eql t (.slice a n c) (.slice none 0 0)).run P w=.ok (.bool a.isNone) w:=by
  have h:∀ d:Nat,(Op.equalIn (d+1) t (.slice a n c) (.slice none 0 0)).run P w=.ok a.isNone w:=fun d=>by
    cases a<;>simp[Op.equalIn,run_underlying ht]
  simp only[binOp]
  simp[Op.equal,Op.maxDepth,h 9999]
theorem aax {P:Program} (w:World) (t e:TypeId) (a:Option Addr) (n c:Nat) (ht:P.underlying t=some (.slice e)) :
    (binOp .neq t (.slice a n c) (.slice none 0 0)).run P w=.ok (.bool (!a.isNone)) w:=by
  have h:∀ d:Nat,(Op.equalIn (d+1) t (.slice a n c) (.slice none 0 0)).run P w=.ok a.isNone w:=fun d=>by
    cases a<;>simp[Op.equalIn,run_underlying ht]
  simp only[binOp]
  simp[Op.equal,Op.maxDepth,h 9999]
variable {P:Program}
theorem aay (w:World) (t:TypeId) {e:TypeId} (a:Addr) (n c:Nat) (ht:P.underlying t=some (.slice e)) :
    (binOp .eql t (.slice (some a) n c) (.slice none 0 0)).run P w=.ok (.bool false) w:=by
  have h:∀ d:Nat,(Op.equalIn (d+1) t (.slice (some a) n c) (.slice none 0 0)).run P w=.ok false w:=fun d=>by
    simp[Op.equalIn,run_underlying ht]
  simp only[binOp]
  simp[Op.equal,Op.maxDepth,h 9999]
theorem aaz (w:World) (t:TypeId) {e:TypeId} (a:Addr) (n c:Nat) (ht:P.underlying t=some (.slice e)) :
    (binOp .neq t (.slice (some a) n c) (.slice none 0 0)).run P w=.ok (.bool true) w:=by
  have h:∀ d:Nat,(Op.equalIn (d+1) t (.slice (some a) n c) (.slice none 0 0)).run P w=.ok false w:=fun d=>by
    simp[Op.equalIn,run_underlying ht]
  simp only[binOp]
  simp[Op.equal,Op.maxDepth,h 9999]
theorem aB.HU {os:List Ob} {w:World} {Z:Nat→Prop} {blk:gG} {id r c:Nat} {cv:Value} (h:aB os w Z blk (.ptr id r c) cv) :
    os[id]?=some .gone∨(∃ b cap cells,os[id]?=some (.var cells)∧blk id=some (b,0,cap)∧r=0∧cv=.pointer (some ⟨b,c,none⟩)) ∨
    (∃ sz b o cap rows,os[id]?=some (.arr sz rows)∧blk id=some (b,o,cap)∧cv=.pointer (some ⟨b,o+(r * sz+c),none⟩)):=by
  cases h with
  | cI _ _ h=>cases h
  | my _ _ _ _ h=>exact .inl h
  | m7 _ _ b cap cells h hb=>exact .inr (.inl ⟨b,cap,cells,h,hb,rfl,rfl⟩)
  | nL _ _ _ sz b o cap rows h hb=>exact .inr (.inr ⟨sz,b,o,cap,rows,h,hb,rfl⟩)
theorem aB.N9 {os:List Ob} {w:World} {Z:Nat→Prop} {blk:gG} {cells:List AV} {cv:Value} (h:aB os w Z blk (.dz cells) cv) :
    ∃ b o,∃ f:Nat→Value,cv=.pointer (some ⟨b,o,none⟩)∧Z b∧(∀ j x,cells[j]?=some x→w.cell? ⟨b,o+j,none⟩=some (f j))∧∀ j x,cells[j]?=some x→gD w Z x (f j):=by
  cases h with
  | cI _ _ h=>cases h
  | dz _ b o f h1 h2 h3=>exact⟨b,o,f,rfl,h1,h2,h3⟩
theorem aB.HV {os:List Ob} {w:World} {Z:Nat→Prop} {blk:gG} {id sz off len:Nat} {cv:Value} (h:aB os w Z blk (.ref id sz off len) cv) :
    os[id]?=some .gone∨(os[id]?=some (.arr sz [])∧blk id=none∧off=0∧len=0∧cv=.slice none 0 0) ∨
    (len=0∧∃ b x bo rows,os[id]?=some (.arr sz rows)∧blk id=some (b,bo)∧off≤rows.length∧cv=.slice (some ⟨b,x,none⟩) 0 0) ∨
    (∃ b o cap cap' rows,os[id]?=some (.arr sz rows)∧blk id=some (b,o,cap)∧off+len≤rows.length∧off+cap'≤cap∧len≤cap'∧cv=.slice (some ⟨b,o+off * sz,none⟩) len cap'):=by
  cases h with
  | cI _ _ h=>cases h
  | kx _ _ _ _ _ h=>exact .inl h
  | l7 _ _ h hb=>exact .inr (.inl ⟨h,hb,rfl,rfl,rfl⟩)
  | mz _ _ _ b x bo rows h hb hl=>exact .inr (.inr (.inl ⟨rfl,b,x,bo,rows,h,hb,hl,rfl⟩))
  | ref _ _ _ _ b o cap cap' rows h hb hl hc ic=>exact .inr (.inr (.inr ⟨b,o,cap,cap',rows,h,hb,hl,hc,ic,rfl⟩))
theorem aB.NR {os:List Ob} {w:World} {Z:Nat→Prop} {blk:gG} {cs:List AV} {cv:Value} (h:aB os w Z blk (.agg cs) cv) :
    ∃ a8,cv=.agg a8∧a8.size=cs.length∧∀ j x,cs[j]?=some x→aB os w Z blk x (a8.getD j Go.undef):=by
  cases h with
  | cI _ _ h=>cases h
  | agg _ a8 h1 h2=>exact⟨a8,rfl,h1,h2⟩
theorem aB.NT {os:List Ob} {w:World} {Z:Nat→Prop} {blk:gG} {cs:List AV} {cv:Value} (h:aB os w Z blk (.bM cs) cv) :
    ∃ a8,cv=.tuple a8∧a8.size=cs.length∧∀ j x,cs[j]?=some x→aB os w Z blk x (a8.getD j Go.undef):=by
  cases h with
  | cI _ _ h=>cases h
  | bM _ a8 h1 h2=>exact⟨a8,rfl,h1,h2⟩
theorem aB.N3 {os:List Ob} {w:World} {Z:Nat→Prop} {blk:gG} {f:FuncId} {cs:List AV} {cv:Value} (h:aB os w Z blk (.fn f cs) cv) :
    ∃ a8,cv=.func (.func f) #[] a8∧a8.size=cs.length∧∀ j x,cs[j]?=some x→aB os w Z blk x (a8.getD j Go.undef):=by
  cases h with
  | cI _ _ h=>cases h
  | fn _ _ a8 h1 h2=>exact⟨a8,rfl,h1,h2⟩
theorem aB.N4 {os:List Ob} {w:World} {Z:Nat→Prop} {blk:gG} {t:TypeId} {v:AV} {cv:Value} (h:aB os w Z blk (.er t v) cv) :∃x,cv=.iface t x∧aB os w Z blk v x:=by
  cases h with
  | cI _ _ h=>cases h
  | er _ _ x h=>exact⟨x,rfl,h⟩
theorem gD.inv {w:World} {Z:Nat→Prop} {sz:Nat} {rows:List (List AV)} {cv:Value} (h:gD w Z (.tree sz rows) cv) :
    (∃ a cap,rows=[]∧cv=.slice a 0 cap)∨∃ b o cap,∃ f:Nat→Nat→Value,cv=.slice (some ⟨b,o,none⟩) rows.length cap∧Z b∧(∀ row∈rows,row.length=sz)∧rows.length≤cap ∧
      (∀ r c x,cellAt rows r c=some x→w.cell? ⟨b,o+(r * sz+c),none⟩=some (f r c))∧∀ r c x,cellAt rows r c=some x→gD w Z x (f r c):=by
  cases h with
  | nil _ cap a=>exact .inl ⟨a,cap,rfl,rfl⟩
  | tree _ _ b o cap f h1 h2 h3 h4 h5=>exact .inr ⟨b,o,cap,f,rfl,h1,h2,h3,h4,h5⟩
theorem gD.sub {w:World} {Z:Nat→Prop} {sz:Nat} {rows:List (List AV)} {b o cap cap':Nat} {f:Nat→Nat→Value} (hz:Z b) (hr:∀ row∈rows,row.length=sz)
    (hc:∀ r c x,cellAt rows r c=some x→w.cell? ⟨b,o+(r * sz+c),none⟩=some (f r c)) (ht:∀ r c x,cellAt rows r c=some x→gD w Z x (f r c)) (lo n:Nat) (hn:n≤cap') (_hcap:rows.length≤cap) (jn:lo+n≤rows.length) :
    gD w Z (.tree sz ((rows.drop lo).take n)) (.slice (some ⟨b,o+lo * sz,none⟩) n cap'):=by
  have hlen:((rows.drop lo).take n).length=n:=by simp;omega
  have p6:∀ r c x,cellAt ((rows.drop lo).take n) r c=some x→cellAt rows (lo+r) c=some x:=by
    intro r c x hx
    simp only[cellAt,tn,mX] at hx
    split at hx
    · exact hx
    · simp at hx
  have:=gD.tree (w:=w) (Z:=Z) sz ((rows.drop lo).take n) b (o+lo * sz) cap' (fun r c=>f (lo+r) c) hz (fun row h=>hr row (List.mem_of_mem_drop (List.mem_of_mem_take h))) (by omega)
    (fun r c x hx=>by
      have h1:=hc _ _ _ (p6 r c x hx)
      rw[fC] at h1
      have e:o+(lo * sz+r * sz+c)=o+lo * sz+(r * sz+c):=by omega
      rw[e] at h1
      exact h1) (fun r c x hx=>ht _ _ _ (p6 r c x hx))
  rw[hlen] at this
  exact this
theorem EF {o:Oper} {σ:St} {γ:Cx} {a:Act} {K:St→Prop} (h:bj σ γ) (ha:γ.tmps=a.tmps) (hd:∀ d,o.dst=some d→d<a.tmps.size) {ob:Ob} {cur:Array Value} {t:TypeId} {cap:Nat}
    (cj:sw σ.aa γ.w γ.Z γ.blk 0 cap cur ob) {v:AV} {cv:Value}
    (hv:aB (σ.aa++[ob]) (γ.w.alloc (.cells cur t)) γ.Z (cK γ.blk σ.aa.length (some (γ.w.heap.size,0,cap))) v cv)
    (hK:K (({ σ with aa:=σ.aa++[ob] }:St).put o.dst v)) {r:Result Next} (hr:r=.ok (.value cv) (γ.w.alloc (.cells cur t))):ym o σ γ a K r :=
  z7 (σ1:={ σ with aa:=σ.aa++[ob] }) (γ1:={ γ with w:=γ.w.alloc (.cells cur t),blk:=cK γ.blk σ.aa.length (some (γ.w.heap.size,0,cap)) })
    (Fr.push (t:=t) (cur:=cur) ob rfl rfl rfl rfl) (h.push (t:=t) (cur:=cur) rfl cj) ha hd hv hK hr
theorem z8 (iN:List (Value × Value)):(gn iN).toList=iN.mapIdx fun i p=>(⟨p.1,p.2,i⟩:MapEntry):=by simp[gn]
theorem N' (L:List (Value × Value)) (p:Value × Value):(gn L).push ⟨p.1,p.2,L.length⟩=gn (L++[p]):=by
  apply Array.toList_inj.1
  rw[Array.toList_push,z8,z8,List.mapIdx_append]
  simp
theorem HW (L:List (Value × Value)) (i:Nat) (f:MapEntry→MapEntry) (p:Value × Value) (hf:∀ q,L[i]?=some q→f ⟨q.1,q.2,i⟩=⟨p.1,p.2,i⟩):(gn L).modify i f=gn (L.set i p):=by
  apply Array.ext_getElem?
  intro j
  rw[Array.getElem?_modify]
  simp only[gn,List.getElem?_toArray,List.getElem?_mapIdx,bO]
  by_cases h:i=j
  · subst h
    rw[if_pos rfl,if_pos rfl]
    cases hq:L[i]? with
    | none =>
      have:¬ i<L.length:=by
        have:=List.getElem?_eq_none_iff.1 hq;omega
      simp[this]
    | some q =>
      have:i<L.length:=(aY.1 hq).1
      simp[this,hf q hq]
  · rw[if_neg h,if_neg h]
theorem yn (ag:Nat) (f:Nat→Value) (L:List (List Int × AV)):(dC ag f L).length=L.length:=by unfold dC;simp
theorem sx (ag:Nat) (f:Nat→Value) (L:List (List Int × AV)) (j:Nat):(dC ag f L)[j]?=(L[j]?).map fun p=>(kV ag p.1,f j):=by unfold dC;simp
theorem u5 {l:List Int}:∀ {L:List (List Int × AV)} {i j:Nat},gI l L i=some j→i≤j∧∃ v,L[j - i]?=some (l,v)
  | [],_,_,h=>by cases h
  | p::r,i,j,h=>by
    rw[gI] at h
    split at h
    · rename_i hp
      cases h
      exact⟨aV _,p.2,by rw[iz];simp[← hp]⟩
    · obtain ⟨h1,v,h2⟩:=u5 h
      have e:j - i=(j - (i+1))+1:=by omega
      exact⟨by omega,v,by rw[e,List.getElem?_cons_succ];exact h2⟩
theorem B1 {σ:St} {γ:Cx} (h:bj σ γ) {v:AV} {cv:Value} (hv:aB σ.aa γ.w γ.Z γ.blk v cv) {id ag:Nat} {L:List (List Int × AV)} (hm:lC σ v=some (id,ag,L)) :
    v=.fL id∧σ.aa[id]?=some (.mp ag L)∧∃ b,∃ f:Nat→Value,γ.blk id=some (b,0,0)∧cv=.map (some b)∧γ.w.heap[b]?=some (.map (gn (dC ag f L)) L.length)∧(∀ p∈L,p.1.length=jF ag)∧∀ (j:Nat) p,L[j]?=some p→aB σ.aa γ.w γ.Z γ.blk p.2 (f j):=by
  unfold lC at hm
  split at hm
  · rename_i yd
    split at hm
    · rename_i iA L' ho
      simp only[dw.injEq,Prod.mk.injEq] at hm
      obtain ⟨rfl,rfl,rfl⟩:=hm
      obtain ⟨b,f,h1,h2,h3,h4⟩:=h.eN _ _ ho
      cases hv with
      | cI _ _ h=>cases h
      | qa _ _ h' _=>rw[ho] at h';simp at h'
      | fL _ b' _ _ h' hb =>
        rw[h1] at hb
        simp only[dw.injEq,Prod.mk.injEq,and_true] at hb
        subst hb
        exact⟨rfl,ho,b,f,h1,rfl,h2,h3,h4⟩
    · cases hm
  · cases hm
theorem HX {os:List Ob} {w:World} {Z:Nat→Prop} {blk:gG} {v:AV} {cv:Value} (hv:aB os w Z blk v cv) {ag:Nat} {l:List Int} (hk:keyOf v=some (ag,l)) (hl:l.length=jF ag):cv=kV ag l:=by
  unfold keyOf at hk
  split at hk
  · simp only[dw.injEq,Prod.mk.injEq] at hk
    obtain ⟨rfl,rfl⟩:=hk
    rw[hv.cH];rfl
  · rename_i cs
    cases hi:ow cs with
    | none=>simp[hi] at hk
    | some as =>
      simp only[hi,eC,dw.injEq,Prod.mk.injEq] at hk
      obtain ⟨rfl,rfl⟩:=hk
      have:=HY hv hi
      rw[this]
      unfold jF at hl
      unfold kV
      by_cases h0:as.length=0
      · rw[if_pos h0] at hl;omega
      · rw[if_neg h0]
  · cases hk
theorem aaA {t:TypeId} {ag:Nat} (sy:ko P t ag) {z:Value} {w:World} (hz:∀ kt et,P.underlying t=some (.map kt et)→(zeroValue et).run P w=.ok z w) {b:Nat} {f:Nat→Value} {L:List (List Int × AV)}
    (hb:w.heap[b]?=some (.map (gn (dC ag f L)) L.length)) (hL:∀ p∈L,p.1.length=jF ag) {l:List Int} (hl:l.length=jF ag) :
    (Instr.lookup t (.map (some b)) (kV ag l) false).run P w=.ok (((gI l L 0).map f).getD z) w:=by
  obtain ⟨kt,et,ht,hk⟩:=sy
  obtain ⟨h1,h2,h3⟩:=hk l hl
  simp only[Instr.lookup,Sem.run_bind,run_underlying ht,MapKept.run_getObj_map hb,h1,h3 f L w hL,Result.andThen_ok,Sem.run_pure]
  cases h:gI l L 0 with
  | none=>simp[hz kt et ht]
  | some q=>simp
theorem aaB {t:TypeId} {ag:Nat} (sy:ko P t ag) {w:World} {b:Nat} {f:Nat→Value} {L:List (List Int × AV)}
    (hb:w.heap[b]?=some (.map (gn (dC ag f L)) L.length)) (hL:∀ p∈L,p.1.length=jF ag) {l:List Int} (hl:l.length=jF ag) (v:AV) (cv:Value) :
    ∃ f':Nat→Value,(Instr.mapUpdate t (.map (some b)) (kV ag l) cv).run P w=.ok () { w with heap:=w.heap.setIfInBounds b (.map (gn (dC ag f' (dY l v L))) (dY l v L).length) } ∧
      (∀ p∈dY l v L,p.1.length=jF ag)∧∀ (j:Nat) p,(dY l v L)[j]?=some p→(p.2=v∧f' j=cv)∨(L[j]?=some p∧f' j=f j):=by
  obtain ⟨kt,et,ht,hk⟩:=sy
  obtain ⟨h1,h2,h3⟩:=hk l hl
  simp only[Instr.mapUpdate,Sem.run_bind,run_underlying ht,MapKept.run_getObj_map hb,h1,h3 f L w hL,Result.andThen_ok]
  unfold dY
  cases h:gI l L 0 with
  | none =>
    refine⟨fun j=>if j=L.length then cv else f j,?_,fun p hp=>?_,fun j p hp=>?_⟩
    · have e:=N' (dC ag f L) (kV ag l,cv)
      rw[yn] at e
      have e2:dC ag f L++[(kV ag l,cv)]=dC ag (fun j=>if j=L.length then cv else f j) (L++[(l,v)]):=by
        unfold dC
        rw[List.mapIdx_append]
        congr 1
        · apply G5
          · simp
          · intro j h5 h6
            have:j<L.length:=by simpa using h5
            simp[lY this]
        · simp
      simp only[pX,MapKept.run_setObj_map _ hb,e,e2,bU,xN]
    · rcases dh.1 hp with hp | hp
      · exact hL p hp
      · rw[ee.1 hp];exact hl
    · rcases dG j L.length with hj | hj
      · rw[dH hj] at hp
        exact .inr ⟨hp,by dsimp only;rw[if_neg (by omega)]⟩
      · rw[fA hj] at hp
        have:j=L.length:=by
          have:=(aY.1 hp).1
          simp at this;omega
        subst this
        simp only[iz,uK,dw.injEq] at hp
        subst hp
        exact .inl ⟨rfl,by dsimp only;rw[if_pos rfl]⟩
  | some q =>
    obtain ⟨_,u,hu⟩:=u5 h
    rw[rV] at hu
    have hq:=(aY.1 hu).1
    refine⟨fun j=>if j=q then cv else f j,?_,fun p hp=>?_,fun j p hp=>?_⟩
    · have HZ:(((gn (dC ag f L))[q]?).map (·.key)).getD (kV ag l)=kV ag l:=by
        simp[gn,sx,hu]
      have e:=HW (dC ag f L) q (fun e=>{ e with key:=kV ag l,val:=cv }) (kV ag l,cv) (fun _ _=>rfl)
      have e2:(dC ag f L).set q (kV ag l,cv)=dC ag (fun j=>if j=q then cv else f j) (L.set q (l,v)):=by
        apply km
        intro j
        rw[bO,sx,sx,bO,yn]
        by_cases hj:q=j
        · subst hj;simp[hq]
        · rw[if_neg hj,if_neg hj,if_neg (Ne.symm hj)]
      simp only[eC,HZ,h2,Result.andThen_ok,MapKept.run_setObj_map _ hb,Sem.run_bind]
      rw[e,e2,bF]
    · rcases pY hp with hp | hp
      · exact hL p hp
      · rw[hp];exact hl
    · simp only[bO] at hp
      by_cases hj:q=j
      · subst hj
        rw[if_pos rfl,if_pos hq] at hp
        cases hp
        exact .inl ⟨rfl,by dsimp only;rw[if_pos rfl]⟩
      · rw[if_neg hj] at hp
        exact .inr ⟨hp,by dsimp only;rw[if_neg (Ne.symm hj)]⟩
theorem bj.wrR {σ:St} {γ:Cx} (h:bj σ γ) {id:Nat} {ob ob':Ob} (ho:σ.aa[id]?=some ob) (hg:ob≠.gone) (kA:ob.dU ob') {b o cap:Nat} (hb:γ.blk id=some (b,o,cap))
    {w':World} (nQ:∀ k,k≠b→w'.heap[k]?=γ.w.heap[k]?):∀ v cv,aB σ.aa γ.w γ.Z γ.blk v cv→aB (σ.aa.set id ob') w' γ.Z γ.blk v cv:=by
  have cT:id<σ.aa.length:=(aY.1 ho).1
  have oH:Live σ.aa id:=⟨ob,ho,hg⟩
  exact fun v cv hv =>
    hv.mono (fun z hz=>⟨hz,nQ z (fun e=>h.nz b ⟨id,o,cap,oH,hb⟩ (e ▸ hz))⟩) (fun i x hx=>by
      rw[bO]
      by_cases mA:id=i
      · subst mA
        rw[ho] at hx
        simp at hx
        subst hx
        right
        refine⟨rfl,ob',by simp[cT],kA⟩
      · rw[if_neg mA]
        by_cases bE:x=.gone
        · subst bE;exact .inl hx
        · exact .inr ⟨rfl,x,hx,Ob.jY bE⟩)
theorem aaD {t:TypeId} {ag:Nat} (sy:ko P t ag) {z:Value} {w:World} (hz:∀ kt et,P.underlying t=some (.map kt et)→(zeroValue et).run P w=.ok z w) {b:Nat} {f:Nat→Value} {L:List (List Int × AV)}
    (hb:w.heap[b]?=some (.map (gn (dC ag f L)) L.length)) (hL:∀ p∈L,p.1.length=jF ag) {l:List Int} (hl:l.length=jF ag) :
    ∃ f':Nat→Value,(Instr.mapEntry t (.map (some b)) (kV ag l)).run P w=.ok (.tuple #[((gI l L 0).map f).getD z,.int .i64 (tB l L:Nat)]) { w with heap:=w.heap.setIfInBounds b (.map (gn (dC ag f' (dY l ((nH l L).getD (.lit z)) L))) (dY l ((nH l L).getD (.lit z)) L).length) } ∧
      (∀ p∈dY l ((nH l L).getD (.lit z)) L,p.1.length=jF ag)∧∀ (j:Nat) p,(dY l ((nH l L).getD (.lit z)) L)[j]?=some p→(p.2=(nH l L).getD (.lit z)∧f' j=((gI l L 0).map f).getD z)∨(L[j]?=some p∧f' j=f j):=by
  obtain ⟨kt,et,ht,hk⟩:=sy
  obtain ⟨h1,h2,h3⟩:=hk l hl
  generalize hv:(nH l L).getD (.lit z)=v
  simp only[Instr.mapEntry,Sem.run_bind,run_underlying ht,MapKept.run_getObj_map hb,h1,h3 f L w hL,Result.andThen_ok]
  unfold dY tB
  cases h:gI l L 0 with
  | none =>
    refine⟨fun j=>if j=L.length then z else f j,?_,fun p hp=>?_,fun j p hp=>?_⟩
    · have e:=N' (dC ag f L) (kV ag l,z)
      rw[yn] at e
      have e2:dC ag f L++[(kV ag l,z)]=dC ag (fun j=>if j=L.length then z else f j) (L++[(l,v)]):=by
        unfold dC
        rw[List.mapIdx_append]
        congr 1
        · apply G5
          · simp
          · intro j h5 h6
            have:j<L.length:=by simpa using h5
            simp[lY this]
        · simp
      simp only[pX,hz kt et ht,Result.andThen_ok,MapKept.run_setObj_map _ hb,Sem.run_bind,e,e2,bU,xN,Sem.run_pure,Option.getD_none,goInt]
    · rcases dh.1 hp with hp | hp
      · exact hL p hp
      · rw[ee.1 hp];exact hl
    · rcases dG j L.length with hj | hj
      · rw[dH hj] at hp
        exact .inr ⟨hp,by dsimp only;rw[if_neg (by omega)]⟩
      · rw[fA hj] at hp
        have:j=L.length:=by
          have:=(aY.1 hp).1
          simp at this;omega
        subst this
        simp only[iz,uK,dw.injEq] at hp
        subst hp
        exact .inl ⟨rfl,by dsimp only;rw[if_pos rfl];rfl⟩
  | some q =>
    obtain ⟨_,u,hu⟩:=u5 h
    rw[rV] at hu
    have hq:=(aY.1 hu).1
    refine⟨f,?_,fun p hp=>?_,fun j p hp=>?_⟩
    · have HZ:(((gn (dC ag f L))[q]?).map (·.key)).getD (kV ag l)=kV ag l:=by
        simp[gn,sx,hu]
      have aaE:(((gn (dC ag f L))[q]?).map (fun e=>(e.born:Int))).getD 0=(q:Int):=by
        simp[gn,sx,hu]
      have e:=HW (dC ag f L) q (fun e=>{ e with key:=kV ag l }) (kV ag l,f q) (fun x hx=>by
        rw[sx,hu] at hx
        cases hx
        rfl)
      have e2:(dC ag f L).set q (kV ag l,f q)=dC ag f (L.set q (l,v)):=by
        apply km
        intro j
        rw[bO,sx,sx,bO,yn]
        by_cases hj:q=j
        · subst hj;simp[hq]
        · rw[if_neg hj,if_neg hj]
      simp only[eC,HZ,h2,Result.andThen_ok,MapKept.run_setObj_map _ hb,Sem.run_bind,Sem.run_pure,aaE,gw,goInt]
      rw[e,e2,bF]
    · rcases pY hp with hp | hp
      · exact hL p hp
      · rw[hp];exact hl
    · simp only[bO] at hp
      by_cases hj:q=j
      · subst hj
        rw[if_pos rfl,if_pos hq] at hp
        cases hp
        exact .inl ⟨rfl,rfl⟩
      · rw[if_neg hj] at hp
        exact .inr ⟨hp,rfl⟩
theorem aaF (iN:List (Value × Value)) {n:Nat} (hn:n<iN.length):(gn iN).findIdx? (fun e=>(e.born:Int) == (n:Int))=some n:=by
  unfold gn
  rw[List.findIdx?_toArray,List.findIdx?_eq_some_iff_getElem]
  refine⟨by simpa using hn,by simp,fun j hj=>?_⟩
  simp only[List.getElem_mapIdx]
  simp;omega
theorem aaG {t:TypeId} {ag:Nat} {w:World} {b:Nat} {f:Nat→Value} {L:List (List Int × AV)}
    (hb:w.heap[b]?=some (.map (gn (dC ag f L)) L.length)) {n:Nat} (hn:n<L.length) (v:AV) (cv:Value) :
    (Instr.entryStore t (.map (some b)) (.int .i64 (n:Nat)) cv).run P w=.ok () { w with heap:=w.heap.setIfInBounds b (.map (gn (dC ag (fun j=>if j=n then cv else f j) (nI n v L))) (nI n v L).length) }:=by
  have hf:=aaF (dC ag f L) (n:=n) (by rw[yn];exact hn)
  have e:=HW (dC ag f L) n (fun e=>{ e with val:=cv }) (kV ag (L.getD n ([],.undef)).1,cv) (fun x hx=>by
    rw[sx,bm hn] at hx
    cases hx
    rw[ay,bm hn];rfl)
  have e2:(dC ag f L).set n (kV ag (L.getD n ([],.undef)).1,cv)=dC ag (fun j=>if j=n then cv else f j) (nI n v L):=by
    unfold nI
    apply km
    intro j
    rw[bO,sx,sx,bO,yn]
    by_cases hj:n=j
    · subst hj;simp[hn]
    · rw[if_neg hj,if_neg hj,if_neg (Ne.symm hj)]
  simp only[Instr.entryStore,Sem.run_bind,MapKept.run_getObj_map hb,asInt,asIntOf,Sem.run_pure,Result.andThen_ok,hf,MapKept.run_setObj_map _ hb]
  rw[e,e2]
  simp[nI]
theorem H0 {P:Program} {t:TypeId} (h:(ty P t).kind=8) :∃kt,P.underlying t=some (.map kt (ty P t).elem):=by
  unfold ty at h ⊢
  cases hi:P.info? t<;>cases hd:P.underlying t<;>simp[hi,hd] at h ⊢
  rename_i i d
  cases d<;>simp at h ⊢
theorem aag {o:Oper} {σ:St} {K:St→Prop} (hW:cg P o σ K) {γ:Cx} (h:bj σ γ) {a:Act} (ha:γ.tmps=a.tmps) (hd:∀ d,o.dst=some d→d<a.tmps.size) :
    ym o σ γ a K ((execOp a.eval o).run P γ.w):=by
  obtain ⟨dst,op,type,pos,after,guard⟩:=o
  unfold cg at hW
  have E:=fun x=>tI h ha x
  cases op
  case move x=>exact dm h ha hd (E x) hW (by simp[execOp])
  case assign x=>exact dm h ha hd (E x) hW (by simp[execOp])
  case pick c x y =>
    simp only at hW
    have hc:=E c
    split at hW
    · rename_i t he
      rw[he] at hc
      have aZ:=hc.cH
      refine dm h ha hd (v:=fE t (ev σ x) (ev σ y)) (cv:=if t then a.eval x else a.eval y) ?_ hW (by simp[execOp,aZ,asBool])
      unfold fE
      split
      · rename_i x' y' h1 h2
        have hx:=E x
        have hy:=E y
        rw[h1] at hx
        rw[h2] at hy
        rw[hx.cH,hy.cH]
        cases t<;>exact .lit _
      · cases t
        · exact E y
        · exact E x
    · exact hW.elim
  case alloc e =>
    simp only at hW
    obtain ⟨aF,hW⟩:=hW
    split at hW
    · rename_i z hz
      obtain ⟨v,hv,hvc⟩:=Oa aF hz γ.w
      obtain ⟨l1,l2⟩:=H2 (os:=σ.aa) (w:=γ.w) (Z:=γ.Z) (blk:=γ.blk) z
      refine EF (ob:=.var (z.map .lit)) (v:=.ptr σ.aa.length 0 0) (cv:=.pointer (some ⟨γ.w.heap.size,0,none⟩)) (cap:=0) (cur:=z.toArray) (t:=e) h ha hd ⟨rfl,by simp,l2⟩ ?_ hW ?_
      · exact .m7 _ 0 _ 0 _ (D2 ..) (by simp[cK])
      · simp[execOp,Instr.alloc,hv,newVar,newRow,hvc]
    · exact hW.elim
  case box e x =>
    simp only at hW
    obtain ⟨hs,hK⟩:=hW
    obtain ⟨c1,c2,c3⟩:=H3 (E x) hs
    refine EF (ob:=.var (cellsOf (ev σ x))) (cv:=.pointer (some ⟨γ.w.heap.size,0,none⟩)) (cap:=0) (cur:=(a.eval x).cells) (t:=e) h ha hd ⟨rfl,c1,c2⟩ ?_ hK ?_
    · exact .m7 _ 0 _ 0 _ (D2 ..) (by simp[cK])
    · simp[execOp,Instr.box,newVar,newRow]
  case build t parts =>
    simp only at hW
    split at hW
    · rename_i z hk hz
      split at hW
      · rename_i cs hf
        obtain ⟨⟨hs,hp⟩,hK⟩:=hW
        obtain ⟨cur,h1,h2⟩:=aaI h ha hk hz hf hs hp
        exact dm h ha hd h2 hK (by simp only[execOp,Sem.run_bind,h1,Result.andThen_ok,Sem.run_pure])
      · exact hW.elim
    · rename_i z hk hz
      split at hW
      · rename_i cs hf
        obtain ⟨⟨hs,hp⟩,hK⟩:=hW
        obtain ⟨cur,h1,h2⟩:=aaJ h ha hk hz hf hs hp
        exact dm h ha hd h2 hK (by simp only[execOp,Sem.run_bind,h1,Result.andThen_ok,Sem.run_pure])
      · exact hW.elim
    · exact hW.elim
  case buildSlice t len parts =>
    simp only at hW
    split at hW
    · rename_i z hk hz
      split at hW
      · rename_i cs hf
        obtain ⟨⟨dT,h0,kB,aaK,hs⟩,hK⟩:=hW
        have ht:=sA hk
        obtain ⟨i,d,hi,EG,sB,_,hzero⟩:=sC dT
        obtain ⟨zv,hzr,im⟩:=Oa dT hz γ.w
        have EH:0<z.length:=by rw[kB];exact h0
        obtain ⟨hl,hr⟩:=H4 h ha parts
        obtain ⟨cur,f1,f2⟩:=EI (σ:=σ) (γ:=γ) _ _ _ _ cs hl hr (fun p hp=>by
          simp only[List.mem_map] at hp
          obtain ⟨q,hq,rfl⟩:=hp
          rw[List.all_eq_true] at hs
          exact hs q hq) (H5 z len (len * (ty P (ty P t).elem).size) (by rw[kB]) EH) hf
        have aiG:cs.length=len * (ty P (ty P t).elem).size:=by
          have:=H5 (os:=σ.aa) (w:=γ.w) (Z:=γ.Z) (blk:=γ.blk) z len (len * (ty P (ty P t).elem).size) (by rw[kB]) EH
          have h1:∀ (parts:List (Nat × AV)) (cs qb:List AV) (place:Nat→Option (Nat × Nat)),l4 place cs parts=some qb→qb.length=cs.length:=by
            intro parts
            induction parts with
            | nil=>intro cs qb place h;simp[l4] at h;rw[h]
            | cons p parts ih =>
              intro cs qb place h
              obtain ⟨i,v⟩:=p
              simp only[l4] at h
              split at h
              · simp at h
              · split at h
                · rw[ih _ _ _ h,H6]
                · simp at h
          rw[h1 _ _ _ _ hf,← this.1]
          simp
        have hmul:len * (ty P (ty P t).elem).size≤16777216:=aaK
        have hlen:len≤maxLen:=by
          have:len * 1≤len * (ty P (ty P t).elem).size:=Nat.mul_le_mul_left _ h0
          unfold maxLen;omega
        have eO:(Instr.buildSlice t len (parts.map fun (i,x)=>(i,a.eval x))).run P γ.w=.ok (.slice (some ⟨γ.w.heap.size,0,none⟩) len len) (γ.w.alloc (.cells cur (ty P t).elem)):=by
          have py:¬ (len * (ty P (ty P t).elem).size > 2 ^ 24):=by omega
          by_cases hl0:len * (ty P (ty P t).elem).size=0
          · rw[hl0] at f1
            have e0:((G7 0).map fun x=>(#[]:Array Value)[x % (#[]:Array Value).size]!)=((G7 0).map (z.toArray[· % z.toArray.size]!)):=by simp
            simp only[Instr.buildSlice,Sem.run_bind,run_underlying ht,Result.andThen_ok,run_sizeOf dT,if_false,hl0,if_true,Sem.run_pure,Nat.not_lt_zero,gt_iff_lt]
            rw[e0,f1]
            simp[newRow]
          simp only[Instr.buildSlice,Sem.run_bind,run_underlying ht,Result.andThen_ok,run_sizeOf dT,py,if_false,hl0,hzr,Sem.run_pure,im]
          rw[show ((G7 (len * (ty P (ty P t).elem).size)).map fun x=>z.toArray[x % z.toArray.size]!)=((G7 (len * (ty P (ty P t).elem).size)).map (z.toArray[· % z.toArray.size]!)) from rfl,f1]
          simp[newRow]
        refine EF (ob:=.arr (ty P (ty P t).elem).size (l5 (ty P (ty P t).elem).size len cs)) (cv:=.slice (some ⟨γ.w.heap.size,0,none⟩) len len) (cap:=len) (cur:=cur) (t:=(ty P t).elem) h ha hd ?_ ?_ hK ?_
        · refine⟨h0,Od _ _ _ (by omega),by rw[f2.1];omega,by rw[H7];omega,hlen,?_⟩
          intro r c v hv
          rw[eK]
          exact f2.2 _ _ (Oe _ _ _ _ _ _ hv)
        · have:=aB.ref (os:=σ.aa++[.arr (ty P (ty P t).elem).size (l5 (ty P (ty P t).elem).size len cs)]) (w:=γ.w.alloc (.cells cur (ty P t).elem)) (Z:=γ.Z) (blk:=cK γ.blk σ.aa.length (some (γ.w.heap.size,0,len)))
            σ.aa.length (ty P (ty P t).elem).size 0 len γ.w.heap.size 0 len len _ (by simp;rfl) (by simp[cK]) (by rw[H7];omega) (by omega) (aV _)
          simpa using this
        · simp only[execOp,Sem.run_bind,eO,Result.andThen_ok,Sem.run_pure]
      · exact hW.elim
    · exact hW.elim
  case load t x =>
    simp only at hW
    obtain ⟨hk,hW⟩:=hW
    have hx:=E x
    split at hW
    · rename_i id r c he
      rw[he] at hx
      split at hW
      · rename_i row a6
        obtain ⟨v,oG,h1,h2,h3⟩:=HN h hk hx a6 hW
        exact dm h ha hd h2 h3 (by simp only[execOp,Sem.run_bind,h1,Result.andThen_ok,Sem.run_pure])
      · exact hW.elim
    · rename_i cells he
      rw[he] at hx
      obtain ⟨v,oG,h1,h2,h3⟩:=aaM h hk hx hW
      exact dm h ha hd h2 h3 (by simp only[execOp,Sem.run_bind,h1,Result.andThen_ok,Sem.run_pure])
    · exact hW.elim
  case store t x y =>
    simp only at hW
    obtain ⟨hk,hW⟩:=hW
    have hx:=E x
    split at hW
    · rename_i id r c he
      rw[he] at hx
      split at hW
      · rename_i row a6
        obtain ⟨hc,hK⟩:=hW
        obtain ⟨w',h1,h2,h3⟩:=aaN h hk hx a6 (E y) hc
        exact H8 h3 h2 ha hd hK (by simp only[execOp,Sem.run_bind,h1,Result.andThen_ok,Sem.run_pure])
      · exact hW.elim
    · exact hW.elim
  case nilCheck x =>
    simp only at hW
    have hx:=E x
    split at hW
    · rename_i id r c he
      rw[he] at hx
      cases ho:σ.aa[id]? with
      | none=>simp[ho] at hW
      | some ob =>
        have cM:ob≠.gone∧K (σ.put dst (.ptr id r c)):=by cases ob<;>simp[ho] at hW ⊢<;>exact hW
        have aZ :∃ad,a.eval x=.pointer (some ad):=by
          rcases hx.HU with h | ⟨b,cap,cells,_,_,_,h⟩ | ⟨_,b,o,cap,rows,_,_,h⟩
          · rw[ho] at h;simp at h;exact absurd h cM.1
          · exact⟨_,h⟩
          · exact⟨_,h⟩
        obtain ⟨ad,aZ⟩:=aZ
        exact dm h ha hd hx cM.2 (by simp[execOp,aZ])
    · rename_i cells he
      rw[he] at hx
      have aZ :∃ad,a.eval x=.pointer (some ad):=by
        obtain ⟨b,o,f,h,_⟩:=hx.N9
        exact⟨_,h⟩
      obtain ⟨ad,aZ⟩:=aZ
      exact dm h ha hd hx hW (by simp[execOp,aZ])
    · exact hW.elim
  case binOp op t x y yt =>
    simp only at hW
    have hx:=E x
    have hy:=E y
    split at hW
    · rename_i k p k' q he hf
      rw[he] at hx
      rw[hf] at hy
      obtain ⟨rfl,hW⟩:=hW
      obtain ⟨v,h1,h2⟩:=aaO (P:=P) hW t γ.w
      refine dm h ha hd (.lit v) h2 ?_
      simp[execOp,hx.cH,hy.cH,eqGuard,h1]
    · rename_i p q he hf
      rw[he] at hx
      rw[hf] at hy
      obtain ⟨hk,hW⟩:=hW
      have ht:=aaP hk
      split at hW
      · refine dm h ha hd (.lit _) hW ?_
        simp[execOp,hx.cH,hy.cH,eqGuard,run_eql_bool γ.w t p q ht]
      · refine dm h ha hd (.lit _) hW ?_
        simp[execOp,hx.cH,hy.cH,eqGuard,run_neq_bool γ.w t p q ht,bne]
      · exact hW.elim
    · rename_i sz rows he hf
      rw[he] at hx
      rw[hf] at hy
      obtain ⟨⟨hk,hr⟩,hW⟩:=hW
      have ht:=sA hk
      rcases hx.yg.inv with ⟨ad,cap,rfl,aZ⟩ | ⟨b,o,cap,f,aZ,_⟩
      · exact absurd hr (by simp)
      split at hW
      · refine dm h ha hd (.lit _) hW ?_
        simp[execOp,aZ,hy.cH,eqGuard,aay γ.w t _ _ _ ht]
      · refine dm h ha hd (.lit _) hW ?_
        simp[execOp,aZ,hy.cH,eqGuard,aaz γ.w t _ _ _ ht]
      · exact hW.elim
    · rename_i ad n c he hf
      rw[he] at hx
      rw[hf] at hy
      obtain ⟨hk,hW⟩:=hW
      have ht:=sA hk
      split at hW
      · refine dm h ha hd (.lit _) hW ?_
        simp[execOp,hx.cH,hy.cH,eqGuard,aaw γ.w t _ _ _ _ ht]
      · refine dm h ha hd (.lit _) hW ?_
        simp[execOp,hx.cH,hy.cH,eqGuard,aax γ.w t _ _ _ _ ht]
      · exact hW.elim
    · rename_i cs ds he hf
      rw[he] at hx
      rw[hf] at hy
      split at hW
      · rename_i as bs B2 H9
        obtain ⟨⟨hq,hlen,z9⟩,hW⟩:=hW
        have Of:=HY hx B2
        have yo:=HY hy H9
        have heq:=hq γ.w as bs rfl hlen
        split at hW
        · refine dm h ha hd (.lit _) hW ?_
          simp only[execOp,Of,yo,Sem.run_bind,run_eqGuard_agg γ.w _ _ _ _ _ _ z9,run_eql_struct,heq,Result.andThen_ok,Sem.run_pure]
        · refine dm h ha hd (.lit _) hW ?_
          simp only[execOp,Of,yo,Sem.run_bind,run_eqGuard_agg γ.w _ _ _ _ _ _ z9,run_neq_struct,heq,Result.andThen_ok,Sem.run_pure]
        · exact hW.elim
      · exact hW.elim
    · exact hW.elim
  case unOp op t x =>
    simp only at hW
    have hx:=E x
    split at hW
    · rename_i b he
      rw[he] at hx
      exact dm h ha hd (.lit _) hW (by simp[execOp,hx.cH,Op.unary])
    · rename_i k n he
      rw[he] at hx
      exact dm h ha hd (.lit _) hW.2 (by simp[execOp,hx.cH,Op.unary,Op.intArith,wz hW.1])
    · exact hW.elim
  case makeMap t r =>
    simp only at hW
    obtain ⟨⟨rfl,hk⟩,hK⟩:=hW
    refine z7 (σ1:={ σ with aa:=σ.aa++[.mp (zR P t) []] }) (γ1:={ γ with w:=γ.w.alloc (.map #[] 0),blk:=cK γ.blk σ.aa.length (some (γ.w.heap.size,0,0)) })
      (Fr.B3 (cap:=0) _ rfl rfl rfl rfl) (h.B3 (cap:=0) rfl fun gW w' jX hR hb hx=>⟨_,fun _=>Go.undef,hb,hx,by simp,by simp⟩) ha hd
      (v:=.fL σ.aa.length) (cv:=.map (some γ.w.heap.size)) (.fL _ _ _ _ (D2 ..) (by simp[cK])) hK ?_
    simp[execOp,Instr.makeMap,newObj,Sem.run]
  case lookup t x i ok =>
    simp only at hW
    split at hW
    · rename_i ag l id iA L z ik ng nh
      obtain ⟨⟨sy,rfl,hl,B4,rfl⟩,hK⟩:=hW
      obtain ⟨kt,ht⟩:=H0 B4
      obtain ⟨_,ho,b,f,hb,aZ,jI,hL,jJ⟩:=B1 h (E x) ng
      have B5:=HX (E i) ik hl
      have hz:∀ B6 yp,P.underlying t=some (.map B6 yp)→(zeroValue yp).run P γ.w=.ok z γ.w:=by
        intro B6 yp h'
        rw[ht] at h'
        cases h'
        unfold zeroV at nh
        split at nh
        · rename_i ii hi
          simp[zeroValue,typeInfo,hi,nh]
        · cases nh
      have eO:=aaA (P:=P) sy hz jI hL hl
      refine dm (cv:=((gI l L 0).map f).getD z) h ha hd ?_ hK (by simp only[execOp,aZ,B5,Sem.run_bind,eO,Result.andThen_ok,Sem.run_pure])
      unfold nH
      cases hf:gI l L 0 with
      | none=>exact .lit z
      | some q =>
        obtain ⟨_,u,hu⟩:=u5 hf
        rw[rV] at hu
        simp only[xJ,hu,eC,gw]
        exact jJ q _ hu
    · exact hW.elim
  case mapUpdate t m k x =>
    simp only at hW
    split at hW
    · rename_i ag l id iA L ik ng
      obtain ⟨⟨sy,rfl,hl⟩,hK⟩:=hW
      obtain ⟨_,ho,b,f,hb,aZ,jI,hL,jJ⟩:=B1 h (E m) ng
      have B5:=HX (E k) ik hl
      obtain ⟨f',eO,H',gX⟩:=aaB (P:=P) sy jI hL hl (ev σ x) (a.eval x)
      have lE:b<γ.w.heap.size:=(pk.1 jI).1
      refine H8 (σ1:={ σ with aa:=σ.aa.set id (.mp iA (dY l (ev σ x) L)) }) (γ1:={ γ with w:={ γ.w with heap:=γ.w.heap.setIfInBounds b (.map (gn (dC iA f' (dY l (ev σ x) L))) (dY l (ev σ x) L).length) } })
        (Fr.write (.mp iA (dY l (ev σ x) L)) ho (by simp) rfl hb (fun k hk=>by simp[xO (Ne.symm hk)]) (by simp) rfl rfl rfl)
        (h.EJ (ob':=.mp iA (dY l (ev σ x) L)) ho (by simp) rfl hb (fun k hk=>by simp[xO (Ne.symm hk)]) (by simp) fun gW hR=>⟨b,f',hb,by simp[lE],H',fun j p hp=>?_⟩) ha hd hK ?_
      · rcases gX j p hp with ⟨h1,h2⟩ | ⟨h1,h2⟩
        · rw[h1,h2];exact hR _ _ (E x)
        · rw[h2];exact hR _ _ (jJ j p h1)
      · simp only[execOp,aZ,B5,Sem.run_bind,eO,Result.andThen_ok,Sem.run_pure]
    · exact hW.elim
  case mapEntry t m k =>
    simp only at hW
    split at hW
    · rename_i ag l id iA L z ik ng nh
      obtain ⟨⟨sy,rfl,hl,B4⟩,hK⟩:=hW
      obtain ⟨kt,ht⟩:=H0 B4
      obtain ⟨_,ho,b,f,hb,aZ,jI,hL,jJ⟩:=B1 h (E m) ng
      have B5:=HX (E k) ik hl
      have hz:∀ B6 yp,P.underlying t=some (.map B6 yp)→(zeroValue yp).run P γ.w=.ok z γ.w:=by
        intro B6 yp h'
        rw[ht] at h'
        cases h'
        unfold zeroV at nh
        split at nh
        · rename_i ii hi
          simp[zeroValue,typeInfo,hi,nh]
        · cases nh
      obtain ⟨f',eO,H',gX⟩:=aaD (P:=P) sy hz jI hL hl
      have lE:b<γ.w.heap.size:=(pk.1 jI).1
      have hold:aB σ.aa γ.w γ.Z γ.blk ((nH l L).getD (.lit z)) (((gI l L 0).map f).getD z):=by
        unfold nH
        cases hf:gI l L 0 with
        | none=>exact .lit z
        | some q =>
          obtain ⟨_,u,hu⟩:=u5 hf
          rw[rV] at hu
          simp only[xJ,hu,eC,gw]
          exact jJ q _ hu
      generalize (nH l L).getD (.lit z)=v at *
      generalize ((gI l L 0).map f).getD z=cv at *
      have hR0:∀ x y,aB σ.aa γ.w γ.Z γ.blk x y→aB (σ.aa.set id (.mp iA (dY l v L))) { γ.w with heap:=γ.w.heap.setIfInBounds b (.map (gn (dC iA f' (dY l v L))) (dY l v L).length) } γ.Z γ.blk x y :=
        h.wrR (ob':=.mp iA (dY l v L)) ho (by simp) rfl hb (fun k hk=>by simp[xO (Ne.symm hk)])
      refine z7 (σ1:={ σ with aa:=σ.aa.set id (.mp iA (dY l v L)) }) (γ1:={ γ with w:={ γ.w with heap:=γ.w.heap.setIfInBounds b (.map (gn (dC iA f' (dY l v L))) (dY l v L).length) } })
        (Fr.write (.mp iA (dY l v L)) ho (by simp) rfl hb (fun k hk=>by simp[xO (Ne.symm hk)]) (by simp) rfl rfl rfl)
        (h.EJ (ob':=.mp iA (dY l v L)) ho (by simp) rfl hb (fun k hk=>by simp[xO (Ne.symm hk)]) (by simp) fun gW hR=>⟨b,f',hb,by simp[lE],H',fun j p hp=>?_⟩) ha hd
        (v:=.bM [v,.lit (.int .i64 (tB l L:Nat))]) (cv:=.tuple #[cv,.int .i64 (tB l L:Nat)]) (.bM _ _ rfl fun j x hx=>?_) hK ?_
      · rcases gX j p hp with ⟨h1,h2⟩ | ⟨h1,h2⟩
        · rw[h1,h2];exact hR _ _ hold
        · rw[h2];exact hR _ _ (jJ j p h1)
      · match j,hx with
        | 0,hx=>cases hx;exact hR0 _ _ hold
        | 1,hx=>cases hx;exact .lit _
      · simp only[execOp,aZ,B5,Sem.run_bind,eO,Result.andThen_ok,Sem.run_pure]
    · exact hW.elim
  case entryStore t m s x =>
    simp only at hW
    split at hW
    · rename_i n id ag L hs ng
      obtain ⟨⟨cy,eh⟩,hK⟩:=hW
      obtain ⟨_,ho,b,f,hb,aZ,jI,hL,jJ⟩:=B1 h (E m) ng
      have Og:=E s
      rw[hs] at Og
      have l8:=Og.cH
      have hn:n=((n.toNat:Nat):Int):=by omega
      have eO:=aaG (P:=P) (t:=t) jI (n:=n.toNat) (by omega) (ev σ x) (a.eval x)
      rw[← hn] at eO
      have lE:b<γ.w.heap.size:=(pk.1 jI).1
      refine H8 (σ1:={ σ with aa:=σ.aa.set id (.mp ag (nI n.toNat (ev σ x) L)) }) (γ1:={ γ with w:={ γ.w with heap:=γ.w.heap.setIfInBounds b (.map (gn (dC ag (fun j=>if j=n.toNat then a.eval x else f j) (nI n.toNat (ev σ x) L))) (nI n.toNat (ev σ x) L).length) } })
        (Fr.write (.mp ag (nI n.toNat (ev σ x) L)) ho (by simp) rfl hb (fun k hk=>by simp[xO (Ne.symm hk)]) (by simp) rfl rfl rfl)
        (h.EJ (ob':=.mp ag (nI n.toNat (ev σ x) L)) ho (by simp) rfl hb (fun k hk=>by simp[xO (Ne.symm hk)]) (by simp) fun gW hR=>⟨b,fun j=>if j=n.toNat then a.eval x else f j,hb,by simp only[Array.getElem?_setIfInBounds_self_of_lt lE],fun p hp=>?_,fun j p hp=>?_⟩) ha hd hK ?_
      · unfold nI at hp
        rcases pY hp with hp | hp
        · exact hL p hp
        · have oF:n.toNat<L.length:=by omega
          rw[hp,ay,bm oF]
          exact hL L[n.toNat] (List.getElem_mem oF)
      · unfold nI at hp
        simp only[bO] at hp
        by_cases hj:n.toNat=j
        · subst hj
          rw[if_pos rfl,if_pos (by omega)] at hp
          cases hp
          dsimp only
          rw[if_pos rfl]
          exact hR _ _ (E x)
        · rw[if_neg hj] at hp
          dsimp only
          rw[if_neg (Ne.symm hj)]
          exact hR _ _ (jJ j p hp)
      · simp only[execOp,aZ,l8,Sem.run_bind,eO,Result.andThen_ok,Sem.run_pure]
    · exact hW.elim
  case index t x i =>
    simp only at hW
    split at hW
    · rename_i s k n hs hi
      obtain ⟨⟨hu,cy,eh⟩,hK⟩:=hW
      have hx:=E x
      rw[hs] at hx
      have hj:=E i
      rw[hi] at hj
      have aT:n.toNat<s.size:=by omega
      have hg:s[n.toNat]?=some s[n.toNat]:=by simp[aT]
      refine dm h ha hd (.lit _) hK ?_
      simp only[execOp,hx.cH,hj.cH,Instr.index,asIntOf,Sem.run_bind,Sem.run_pure,Result.andThen_ok,run_underlying hu,if_pos cy,hg,Ht]
    · exact hW.elim
  case makeInterface t x =>
    simp only at hW
    obtain ⟨h1,hK⟩:=hW
    refine dm h ha hd (v:=.er t (ev σ x)) (cv:=.iface t (a.eval x)) (.er _ _ _ (E x)) hK ?_
    unfold uQ at h1
    cases hu:P.underlying t with
    | none=>simp[hu] at h1
    | some d=>cases d<;>simp[hu] at h1<;>simp[execOp,Instr.makeInterface,run_underlying hu]
  case typeAssert x xt asserted ok =>
    simp only at hW
    have hx:=E x
    split at hW
    · rename_i t v he
      rw[he] at hx
      obtain ⟨cx,hc,hv⟩:=hx.N4
      obtain ⟨⟨h1,rfl,rfl⟩,hK⟩:=hW
      refine dm h ha hd hv hK ?_
      unfold uQ at h1
      cases hu:P.underlying t with
      | none=>simp[hu] at h1
      | some d=>cases d<;>simp[hu] at h1<;>simp[execOp,hc,Instr.typeAssert,run_underlying hu]
    · exact hW.elim
  case makeFunc fn first captured =>
    simp only at hW
    split at hW
    · rename_i f
      obtain ⟨hf,hK⟩:=hW
      have hfe:first = #[]:=Array.eq_empty_of_size_eq_zero hf
      subst hfe
      refine dm h ha hd (v:=.fn f (captured.toList.map (ev σ))) (cv:=.func (.func f) #[] (captured.map a.eval)) ?_ hK (by simp[execOp,Instr.makeFunc])
      refine .fn _ _ _ (by simp) (fun j x hj=>?_)
      simp only[bR] at hj
      cases hc:captured.toList[j]? with
      | none=>simp[hc] at hj
      | some y =>
        simp[hc] at hj
        subst hj
        simp only[BC] at hc
        simp[eY,hc]
        exact E y
    · exact hW.elim
  case makeSlice t l c =>
    simp only at hW
    have hl:=E l
    have hc:=E c
    split at hW
    · rename_i z k n k' n' hk hz he hf
      rw[he] at hl
      rw[hf] at hc
      obtain ⟨⟨dT,h0,kB,rfl,cy,eh,B7,_⟩,hK,_⟩:=hW
      have ht:=sA hk
      obtain ⟨i,d,hi,EG,sB,B8,hzero⟩:=sC dT
      obtain ⟨zv,yq,im⟩ :∃zv,i.zero=some zv∧zv.cells=z.toArray:=by
        rw[hzero] at hz
        cases hv:i.zero with
        | none=>simp[hv] at hz
        | some v=>simp[hv] at hz;exact⟨v,rfl,by rw[← hz]⟩
      have hb:(i.bytes:Int) * n'≤281474976710656:=by
        have h1:(i.bytes:Int)≤128:=by rw[← B8];exact_mod_cast B7
        have h2:(i.bytes:Int) * n'≤128 * n':=Int.mul_le_mul_of_nonneg_right h1 cy
        omega
      have hr:=run_make (P:=P) γ.w t _ i zv ht hi yq k k' n' n' cy (Int.le_refl _) hb (by omega)
      rw[← sB,im] at hr
      have EH:0<z.length:=by rw[kB];exact h0
      obtain ⟨z1,z2⟩:=H5 (os:=σ.aa) (w:=γ.w) (Z:=γ.Z) (blk:=γ.blk) z n'.toNat (n'.toNat * (ty P (ty P t).elem).size) (by rw[kB]) EH
      refine EF (ob:=.arr (ty P (ty P t).elem).size (aW n'.toNat (z.map .lit))) (cv:=.slice (some ⟨γ.w.heap.size,0,none⟩) n'.toNat n'.toNat) (cap:=n'.toNat) (cur:=madeCells z.toArray (n'.toNat * (ty P (ty P t).elem).size)) (t:=(ty P t).elem) h ha hd ?_ ?_ hK ?_
      · refine⟨h0,?_,by rw[size_madeCells];omega,by simp,by unfold maxLen;omega,?_⟩
        · intro row a6
          simp only[List.mem_replicate] at a6
          rw[a6.2];simp[kB]
        · intro r c v hv
          rw[eK]
          have bX:r<n'.toNat:=by
            simp only[cellAt,Option.bind_eq_some_iff] at hv
            obtain ⟨y,hy,_⟩:=hv
            have:=(aY.1 hy).1
            simpa using this
          simp only[cellAt,List.getElem?_replicate,bX,if_true,xJ] at hv
          have bL:c<(ty P (ty P t).elem).size:=by
            have:=(aY.1 hv).1
            simp at this;omega
          have aT:=yh bX bL
          have hx:((bn n'.toNat).flatMap fun _=>z.map AV.lit)[r * (ty P (ty P t).elem).size+c]?=some v:=by
            have key:∀ (m r:Nat),r<m→((bn m).flatMap fun _=>z.map AV.lit)[r * z.length+c]?=(z.map AV.lit)[c]?:=by
              intro m
              have hlen:∀ m,((bn m).flatMap fun _=>z.map AV.lit).length=m * z.length:=by
                intro m
                induction m with
                | zero=>simp
                | succ m ih=>rw[vW,po,bU,ih];simp[fC]
              induction m with
              | zero=>intro r hr;omega
              | succ m ih =>
                intro r hr
                rw[vW,po]
                by_cases z':r<m
                · rw[dH (by rw[hlen,kB];exact yh z' bL)]
                  exact ih r z'
                · have:r=m:=by omega
                  subst this
                  rw[fA (by rw[hlen];omega),hlen]
                  simp
            rw[← kB,key _ _ bX]
            exact hv
          exact z2 _ _ hx
      · have:=aB.ref (os:=σ.aa++[.arr (ty P (ty P t).elem).size (aW n'.toNat (z.map .lit))]) (w:=γ.w.alloc (.cells (madeCells z.toArray (n'.toNat * (ty P (ty P t).elem).size)) (ty P t).elem)) (Z:=γ.Z) (blk:=cK γ.blk σ.aa.length (some (γ.w.heap.size,0,n'.toNat)))
          σ.aa.length (ty P (ty P t).elem).size 0 n'.toNat γ.w.heap.size 0 n'.toNat n'.toNat _ (D2 ..) (by simp[cK]) (by simp) (by omega) (aV _)
        simpa using this
      · simp only[execOp,Sem.run_bind,hl.cH,hc.cH,hr,Result.andThen_ok,Sem.run_pure]
    · exact hW.elim
  case fieldAddr s x f =>
    simp only at hW
    have hx:=E x
    split at hW
    · rename_i off ft size hk gB
      obtain ⟨a5,hW⟩:=hW
      obtain ⟨fs,hu,u6⟩:=Ia hk
      obtain ⟨fd,yr,xU,Aa⟩ :∃fd:Field,fs[f]?=some fd∧fd.offset=off∧u7 P fd.type=size:=by
        rw[u6] at gB
        simp only[bR,BC] at gB
        cases hg:fs[f]? with
        | none=>simp[hg] at gB
        | some fd=>simp[hg] at gB;exact⟨fd,rfl,gB.1,gB.2.2⟩
      have eO:∀ (b o:Nat),(Instr.fieldAt s (.pointer (some ⟨b,o,none⟩)) f).run P γ.w=.ok (.pointer (some ⟨b,o+off,none⟩)) γ.w:=by
        intro b o
        have hso:(sizeOf fd.type).run P γ.w=.ok size γ.w:=by
          rw[← Aa]
          unfold u7 at Aa ⊢
          cases hi:P.info? fd.type with
          | none=>rw[hi] at Aa;simp at Aa;omega
          | some i=>simp[sizeOf,typeInfo,hi]
        have b8:¬ size=0:=by omega
        simp[Instr.fieldAt,run_underlying hu,yr,Instr.sureAddr,fieldPlace,hso,b8,Addr.qW,xU]
      split at hW
      · rename_i id r c he
        rw[he] at hx
        cases ho:σ.aa[id]? with
        | none=>simp[ho] at hW
        | some ob =>
          have cM:ob≠.gone∧K (σ.put dst (.ptr id r (c+off))):=by cases ob<;>simp[ho] at hW ⊢<;>exact hW
          rcases hx.HU with hg | ⟨b,cap,cells,h1,h2,rfl,aZ⟩ | ⟨sz,b,o,cap,rows,h1,h2,aZ⟩
          · rw[ho] at hg;simp at hg;exact absurd hg cM.1
          · exact dm h ha hd (.m7 id (c+off) b cap cells h1 h2) cM.2 (by simp only[execOp,Sem.run_bind,aZ,eO,Result.andThen_ok,Sem.run_pure])
          · refine dm h ha hd (.nL id r (c+off) sz b o cap rows h1 h2) cM.2 ?_
            simp only[execOp,Sem.run_bind,aZ,eO,Result.andThen_ok,Sem.run_pure]
            simp[vX]
      · rename_i cells he
        rw[he] at hx
        obtain ⟨b,o,g,aZ,h1,h2,h3⟩:=hx.N9
        refine dm h ha hd (.dz (cells.drop off) b (o+off) (fun j=>g (off+j)) h1 ?_ ?_) hW ?_
        · intro j x hj
          rw[mX] at hj
          have:=h2 _ _ hj
          simpa [vX] using this
        · intro j x hj
          rw[mX] at hj
          exact h3 _ _ hj
        · simp only[execOp,Sem.run_bind,aZ,eO,Result.andThen_ok,Sem.run_pure]
      · exact hW.elim
    · exact hW.elim
  case extract x i =>
    simp only at hW
    have hx:=E x
    split at hW
    · rename_i vs he
      rw[he] at hx
      obtain ⟨a8,aZ,hs,hr⟩:=hx.NT
      split at hW
      · rename_i v hv
        have hi:i<a8.size:=by rw[hs];exact (aY.1 hv).1
        refine dm h ha hd (hr i v hv) hW ?_
        simp[execOp,aZ,Instr.extract,hi,eY]
      · exact hW.elim
    · exact hW.elim
  case field s x f =>
    simp only at hW
    have hx:=E x
    split at hW
    · rename_i off ft size hk gB
      obtain ⟨dT,sB,hW⟩:=hW
      obtain ⟨fs,hu,u6⟩:=Ia hk
      obtain ⟨fd,yr,xU,Aa⟩ :∃fd:Field,fs[f]?=some fd∧fd.offset=off∧fd.type=ft:=by
        rw[u6] at gB
        simp only[bR,BC] at gB
        cases hg:fs[f]? with
        | none=>simp[hg] at gB
        | some fd=>simp[hg] at gB;exact⟨fd,rfl,gB.1,gB.2.1⟩
      subst xU
      subst Aa
      split at hW
      · rename_i cs he
        rw[he] at hx
        obtain ⟨a8,aZ,hs,hr⟩:=hx.NR
        split at hW
        · rename_i j2
          refine dm h ha hd (v:=.agg ((cs.drop fd.offset).take size)) (cv:=.agg (a8.extract fd.offset (fd.offset+size))) ?_ hW.2 ?_
          · have h1:=hW.1
            refine .agg _ _ (by simp;omega) (fun j y hj=>?_)
            have jH:j<size:=by have:=(aY.1 hj).1;simp at this;omega
            rw[tn,if_pos jH,mX] at hj
            have:=hr _ _ hj
            simp[eY,Array.getElem?_extract] at this ⊢
            rw[if_pos (by omega)]
            exact this
          · simp[execOp,aZ,Instr.field,run_underlying hu,yr,asAgg,part,Ib dT,run_sizeOf dT,j2,sB]
        · rename_i j2
          split at hW
          · rename_i v hv
            have hi:fd.offset<a8.size:=by rw[hs];exact (aY.1 hv).1
            refine dm h ha hd (hr _ v hv) hW ?_
            simp[execOp,aZ,Instr.field,run_underlying hu,yr,asAgg,part,Ib dT,j2,hi,eY]
          · exact hW.elim
      · exact hW.elim
    · exact hW.elim
  case indexAddr t x i =>
    simp only at hW
    have hx:=E x
    have hi:=E i
    split at hW
    · rename_i id sz off len k n hk he hf
      rw[he] at hx
      rw[hf] at hi
      split at hW
      · rename_i cJ rows ho
        obtain ⟨⟨rfl,a5,dT,h0,h1⟩,hK⟩:=hW
        have ht:=sA hk
        rcases hx.HV with hg | ⟨_,_,_,rfl,_⟩ | ⟨rfl,_⟩ | ⟨b,o,cap,cap',gk,g1,g2,g3,g4,g5,aZ⟩
        · rw[ho] at hg;simp at hg
        · omega
        · omega
        · refine dm h ha hd (.nL id (off+n.toNat) 0 _ b o cap gk g1 g2) hK ?_
          have hc:0≤n∧n<(len:Int):=⟨h0,h1⟩
          simp only[execOp,Sem.run_bind,Instr.indexAt,aZ,hi.cH,asIntOf,Sem.run_pure,Result.andThen_ok,run_underlying ht,Sem.run_ite,hc,and_self,if_true,run_sizeOf dT,← a5,Addr.qW]
          simp[fC,vX]
      · exact hW.elim
    · rename_i sz rows k n hk he hf
      rw[he] at hx
      rw[hf] at hi
      obtain ⟨⟨a5,dT,h0,h1⟩,hK⟩:=hW
      have ht:=sA hk
      rcases hx.yg.inv with ⟨ad,cap,rfl,aZ⟩ | ⟨b,o,cap,f,aZ,g1,g2,g3,g4,g5⟩
      · simp at h1;omega
      · have hn:n.toNat<rows.length:=by omega
        refine dm h ha hd (.dz (rows.getD n.toNat []) b (o+n.toNat * sz) (fun j=>f n.toNat j) g1 ?_ ?_) hK ?_
        · intro j y hj
          have:cellAt rows n.toNat j=some y:=by
            rw[ay] at hj
            simp[hn] at hj
            simp[cellAt,hn,hj]
          have:=g4 _ _ _ this
          simpa [vX] using this
        · intro j y hj
          have:cellAt rows n.toNat j=some y:=by
            rw[ay] at hj
            simp[hn] at hj
            simp[cellAt,hn,hj]
          exact g5 _ _ _ this
        · have hc:0≤n∧n<(rows.length:Int):=⟨h0,by omega⟩
          simp only[execOp,Sem.run_bind,Instr.indexAt,aZ,hi.cH,asIntOf,Sem.run_pure,Result.andThen_ok,run_underlying ht,Sem.run_ite,hc,and_self,if_true,run_sizeOf dT,← a5,Addr.qW]
    · rename_i id r c k n hk he hf
      rw[he] at hx
      rw[hf] at hi
      cases ho:σ.aa[id]? with
      | none=>simp[ho] at hW
      | some ob =>
        have cM:ob≠.gone∧((ty P (ty P t).elem).kind≠99∧0≤n∧n<(ty P t).len)∧K (σ.put dst (.ptr id r (c+n.toNat * (ty P (ty P t).elem).size))):=by cases ob<;>simp[ho] at hW ⊢<;>exact hW
        obtain ⟨nR,⟨dT,h0,h1⟩,hK⟩:=cM
        have ht:=Oh hk
        have hc:0≤n∧n<((ty P t).len:Int):=⟨h0,h1⟩
        rcases hx.HU with hg | ⟨b,cap,cells,h1,h2,rfl,aZ⟩ | ⟨sz,b,o,cap,rows,h1,h2,aZ⟩
        · rw[ho] at hg;simp at hg;exact absurd hg nR
        · refine dm h ha hd (.m7 id _ b cap cells h1 h2) hK ?_
          simp only[execOp,Sem.run_bind,Instr.indexAt,aZ,hi.cH,asIntOf,Sem.run_pure,Result.andThen_ok,run_underlying ht,Instr.sureAddr,Sem.run_ite,hc,and_self,if_true,run_sizeOf dT,Addr.qW]
        · refine dm h ha hd (.nL id r _ sz b o cap rows h1 h2) hK ?_
          simp only[execOp,Sem.run_bind,Instr.indexAt,aZ,hi.cH,asIntOf,Sem.run_pure,Result.andThen_ok,run_underlying ht,Instr.sureAddr,Sem.run_ite,hc,and_self,if_true,run_sizeOf dT,Addr.qW]
          simp[vX]
    · exact hW.elim
  case slice t x lo hi mx =>
    simp only at hW
    obtain ⟨hk,dT,rfl,hW⟩:=hW
    have ht:=sA hk
    have hx:=E x
    have eO:∀ (ad:Option Addr) (len cap l h:Nat) (lo hi:Option Value),(lo=none∧l=0∨∃ k,lo=some (.int k (l:Int)))→(hi=none∧h=len∨∃ k,hi=some (.int k (h:Int)))→l≤h→h≤cap →
        (ty P (ty P t).elem).kind≠99→(Instr.sliceAt t (.slice ad len cap) lo hi none).run P γ.w=.ok (.slice (if cap=l then ad else ad.map (·.add (l * (ty P (ty P t).elem).size))) (h - l) (cap - l)) γ.w:=by
      intro ad len cap l h lo hi jn nS h1 h2 dT
      have c1:(l:Int)≤h:=by omega
      have c2:(h:Int)≤cap:=by omega
      rcases jn with ⟨rfl,rfl⟩ | ⟨k,rfl⟩<;>rcases nS with ⟨rfl,rfl⟩ | ⟨k',rfl⟩ <;>
        simp[Instr.sliceAt,Instr.slice,Instr.sliceBounds,Instr.sliceBound,asIntOf,run_underlying ht,run_sizeOf dT,h1,h2]
    split at hW
    · rename_i id sz off len he
      rw[he] at hx
      split at hW
      · rename_i cJ rows ho
        obtain ⟨rfl,a5,hW⟩:=hW
        obtain ⟨h0,bX,_⟩:=h.eN _ _ ho
        have key:∀ (l hh:Nat) (mB ax:Option Operand),(mB.map a.eval=none∧l=0∨∃ k,mB.map a.eval=some (.int k (l:Int)))→(ax.map a.eval=none∧hh=len∨∃ k,ax.map a.eval=some (.int k (hh:Int)))→l≤hh→hh≤len →
            K (σ.put dst (.ref id cJ (off+l) (hh - l)))→ym ⟨dst,.slice t x mB ax none,type,pos,after,guard⟩ σ γ a K ((execOp a.eval ⟨dst,.slice t x mB ax none,type,pos,after,guard⟩).run P γ.w):=by
          intro l hh mB ax jn nS h1 h2 hK
          rcases hx.HV with hg | ⟨g1,g2,rfl,rfl,aZ⟩ | ⟨rfl,b,xx,bo,gk,g1,g2,g3,aZ⟩ | ⟨b,o,cap,cap',gk,g1,g2,g3,g4,g5,aZ⟩
          · rw[ho] at hg;simp at hg
          · have:l=0:=by omega
            subst this
            have:hh=0:=by omega
            subst this
            refine dm (o:=⟨dst,.slice t x mB ax none,type,pos,after,guard⟩) h ha hd (.l7 id _ g1 g2) hK ?_
            have:=eO none 0 0 0 0 _ _ jn nS (by omega) (by omega) dT
            simp only[execOp,Sem.run_bind,aZ,pX,this,Result.andThen_ok,Sem.run_pure]
            simp
          · have:l=0:=by omega
            subst this
            have:hh=0:=by omega
            subst this
            refine dm (o:=⟨dst,.slice t x mB ax none,type,pos,after,guard⟩) h ha hd (.mz id _ _ b xx bo gk g1 g2 (by omega)) hK ?_
            have:=eO (some ⟨b,xx,none⟩) 0 0 0 0 _ _ jn nS (by omega) (by omega) dT
            simp only[execOp,Sem.run_bind,aZ,pX,this,Result.andThen_ok,Sem.run_pure]
            simp
          · have hr:=eO (some ⟨b,o+off * cJ,none⟩) len cap' l hh _ _ jn nS h1 (by omega) dT
            by_cases hm:cap'=l
            · have e1:hh=l:=by omega
              subst e1
              rw[if_pos hm] at hr
              have e2:hh - hh=0:=by omega
              have e3:cap' - hh=0:=by omega
              rw[e2,e3] at hr
              rw[e2] at hK
              refine dm (o:=⟨dst,.slice t x mB ax none,type,pos,after,guard⟩) h ha hd (.mz id _ _ b (o+off * cJ) (o,cap) gk g1 g2 (by omega)) hK ?_
              simp only[execOp,Sem.run_bind,aZ,pX,hr,Result.andThen_ok,Sem.run_pure]
            · rw[if_neg hm] at hr
              refine dm (o:=⟨dst,.slice t x mB ax none,type,pos,after,guard⟩) h ha hd (.ref id _ (off+l) (hh - l) b o cap (cap' - l) gk g1 g2 (by omega) (by omega) (by omega)) hK ?_
              simp only[execOp,Sem.run_bind,aZ,pX,hr,Result.andThen_ok,Sem.run_pure,eC,Addr.qW,← a5]
              simp[fC,vX]
        split at hW
        · rename_i e1 e2
          have jn:lo=none:=by cases lo<;>simp at e1 ⊢
          have nS:hi=none:=by cases hi<;>simp at e2 ⊢
          subst jn;subst nS
          exact key 0 len none none (.inl ⟨rfl,rfl⟩) (.inl ⟨rfl,rfl⟩) (by omega) (aV _) (by simpa using hW)
        · rename_i k l e1 e2
          have nS:hi=none:=by cases hi<;>simp at e2 ⊢
          subst nS
          obtain ⟨lo,rfl,f1⟩ :∃y,lo=some y∧ev σ y=.lit (.int k l):=by cases lo<;>simp at e1 ⊢;exact e1
          obtain ⟨⟨c1,c2,_⟩,hK⟩:=hW
          have hl:=E lo
          rw[f1] at hl
          refine key l.toNat len (some lo) none (.inr ⟨k,?_⟩) (.inl ⟨rfl,rfl⟩) (by omega) (aV _) hK
          simp[hl.cH];omega
        · rename_i k hh e1 e2
          have jn:lo=none:=by cases lo<;>simp at e1 ⊢
          subst jn
          obtain ⟨hi,rfl,f2⟩ :∃y,hi=some y∧ev σ y=.lit (.int k hh):=by cases hi<;>simp at e2 ⊢;exact e2
          obtain ⟨⟨c1,c2⟩,hK⟩:=hW
          have hl:=E hi
          rw[f2] at hl
          refine key 0 hh.toNat none (some hi) (.inl ⟨rfl,rfl⟩) (.inr ⟨k,?_⟩) (by omega) (by omega) (by simpa using hK)
          simp[hl.cH];omega
        · rename_i k l k' hh e1 e2
          obtain ⟨lo,rfl,f1⟩ :∃y,lo=some y∧ev σ y=.lit (.int k l):=by cases lo<;>simp at e1 ⊢;exact e1
          obtain ⟨hi,rfl,f2⟩ :∃y,hi=some y∧ev σ y=.lit (.int k' hh):=by cases hi<;>simp at e2 ⊢;exact e2
          obtain ⟨⟨c1,c2,c3⟩,hK⟩:=hW
          have hl:=E lo
          have B9:=E hi
          rw[f1] at hl
          rw[f2] at B9
          refine key l.toNat hh.toNat (some lo) (some hi) (.inr ⟨k,?_⟩) (.inr ⟨k',?_⟩) (by omega) (by omega) hK
          · simp[hl.cH];omega
          · simp[B9.cH];omega
        · exact hW.elim
      · exact hW.elim
    · rename_i sz rows he
      rw[he] at hx
      obtain ⟨a5,hW⟩:=hW
      have key:∀ (l hh:Nat) (mB ax:Option Operand),(mB.map a.eval=none∧l=0∨∃ k,mB.map a.eval=some (.int k (l:Int)))→(ax.map a.eval=none∧hh=rows.length∨∃ k,ax.map a.eval=some (.int k (hh:Int)))→l≤hh→hh≤rows.length →
          K (σ.put dst (.tree sz ((rows.drop l).take (hh - l))))→ym ⟨dst,.slice t x mB ax none,type,pos,after,guard⟩ σ γ a K ((execOp a.eval ⟨dst,.slice t x mB ax none,type,pos,after,guard⟩).run P γ.w):=by
        intro l hh mB ax jn nS h1 h2 hK
        rcases hx.yg.inv with ⟨ad,cap,rfl,aZ⟩ | ⟨b,o,cap,f,aZ,g1,g2,g3,g4,g5⟩
        · have e1:hh=0:=by simpa using h2
          subst e1
          have e2:l=0:=by omega
          subst e2
          have hr:=eO ad 0 cap 0 0 _ _ jn nS (by omega) (by omega) dT
          refine dm (o:=⟨dst,.slice t x mB ax none,type,pos,after,guard⟩) h ha hd (v:=.tree sz (([].drop 0).take (0 - 0))) (cv:=.slice (if cap=0 then ad else ad.map (·.add (0 * (ty P (ty P t).elem).size))) (0 - 0) (cap - 0)) (.cI _ _ (.nil sz (cap - 0) _)) hK ?_
          simp only[execOp,Sem.run_bind,aZ,pX,hr,Result.andThen_ok,Sem.run_pure]
        · have hr:=eO (some ⟨b,o,none⟩) rows.length cap l hh _ _ jn nS h1 (by omega) dT
          by_cases nT:hh - l=0
          · have e:(rows.drop l).take (hh - l)=[]:=by rw[nT];simp
            rw[e] at hK
            rw[nT] at hr
            refine dm (o:=⟨dst,.slice t x mB ax none,type,pos,after,guard⟩) h ha hd (v:=.tree sz []) (cv:=.slice (if cap=l then some ⟨b,o,none⟩ else (some (⟨b,o,none⟩:Addr)).map (·.add (l * (ty P (ty P t).elem).size))) 0 (cap - l)) (.cI _ _ (.nil sz (cap - l) _)) hK ?_
            simp only[execOp,Sem.run_bind,aZ,pX,hr,Result.andThen_ok,Sem.run_pure]
          · have b8:¬ cap=l:=by omega
            rw[if_neg b8] at hr
            have aaT:rows≠[]:=by intro e;subst e;simp at h2;omega
            refine dm (o:=⟨dst,.slice t x mB ax none,type,pos,after,guard⟩) h ha hd (.cI _ _ (gD.sub g1 g2 g4 g5 l (hh - l) (cap':=cap - l) (by omega) g3 (by omega))) hK ?_
            simp only[execOp,Sem.run_bind,aZ,pX,hr,Result.andThen_ok,Sem.run_pure,eC,Addr.qW,← a5 aaT]
      split at hW
      · rename_i e1 e2
        have jn:lo=none:=by cases lo<;>simp at e1 ⊢
        have nS:hi=none:=by cases hi<;>simp at e2 ⊢
        subst jn;subst nS
        exact key 0 rows.length none none (.inl ⟨rfl,rfl⟩) (.inl ⟨rfl,rfl⟩) (by omega) (aV _) (by simpa using hW)
      · rename_i k l e1 e2
        have nS:hi=none:=by cases hi<;>simp at e2 ⊢
        subst nS
        obtain ⟨lo,rfl,f1⟩ :∃y,lo=some y∧ev σ y=.lit (.int k l):=by cases lo<;>simp at e1 ⊢;exact e1
        obtain ⟨⟨c1,c2⟩,hK⟩:=hW
        have hl:=E lo
        rw[f1] at hl
        refine key l.toNat rows.length (some lo) none (.inr ⟨k,?_⟩) (.inl ⟨rfl,rfl⟩) (by omega) (aV _) ?_
        · simp[hl.cH];omega
        · have e:(rows.drop l.toNat).take (rows.length - l.toNat)=rows.drop l.toNat:=List.take_of_length_le (by simp)
          rw[e];exact hK
      · rename_i k hh e1 e2
        have jn:lo=none:=by cases lo<;>simp at e1 ⊢
        subst jn
        obtain ⟨hi,rfl,f2⟩ :∃y,hi=some y∧ev σ y=.lit (.int k hh):=by cases hi<;>simp at e2 ⊢;exact e2
        obtain ⟨⟨c1,c2⟩,hK⟩:=hW
        have hl:=E hi
        rw[f2] at hl
        refine key 0 hh.toNat none (some hi) (.inl ⟨rfl,rfl⟩) (.inr ⟨k,?_⟩) (by omega) (by omega) (by simpa using hK)
        simp[hl.cH];omega
      · rename_i k l k' hh e1 e2
        obtain ⟨lo,rfl,f1⟩ :∃y,lo=some y∧ev σ y=.lit (.int k l):=by cases lo<;>simp at e1 ⊢;exact e1
        obtain ⟨hi,rfl,f2⟩ :∃y,hi=some y∧ev σ y=.lit (.int k' hh):=by cases hi<;>simp at e2 ⊢;exact e2
        obtain ⟨⟨c1,c2,c3⟩,hK⟩:=hW
        have hl:=E lo
        have B9:=E hi
        rw[f1] at hl
        rw[f2] at B9
        refine key l.toNat hh.toNat (some lo) (some hi) (.inr ⟨k,?_⟩) (.inr ⟨k',?_⟩) (by omega) (by omega) ?_
        · simp[hl.cH];omega
        · simp[B9.cH];omega
        · rw[← List.drop_take];exact hK
      · exact hW.elim
    · exact hW.elim
  case call c =>
    obtain ⟨callee,args,argTypes⟩:=c
    have m4:∀ l,args.toList=l→args=l.toArray:=by intro l h;rw[← h]
    have EK:∀ l,argTypes.toList=l→argTypes=l.toArray:=by intro l h;rw[← h]
    cases callee with
    | value f=>exact hW.elim
    | invoke r m=>exact hW.elim
    | builtin b =>
      cases b
      case len =>
        simp only at hW
        split at hW
        · rename_i x t cP jU
          have ea:=m4 _ cP
          have et:=EK _ jU
          subst ea
          subst et
          have hx:=E x
          have eO:(ty P t).kind=1→∀ ad n c,a.eval x=.slice ad n c→(execOp a.eval ⟨dst,.call ⟨.builtin .len,[x].toArray,[t].toArray⟩,type,pos,after,guard⟩).run P γ.w=.ok (.value (.int .i64 (n:Int))) γ.w:=by
            intro hk ad n c hc
            have ht:=sA hk
            simp[execOp,resolve,invoke,builtin,Builtin.len_,run_underlying ht,hc,goInt]
          split at hW
          · rename_i id sz off len he
            rw[he] at hx
            obtain ⟨hk,hW⟩:=hW
            split at hW
            · rename_i cJ rows ho
              rcases hx.HV with hg | ⟨_,_,_,rfl,aZ⟩ | ⟨rfl,_,_,_,_,_,_,_,aZ⟩ | ⟨b,o,cap,cap',gk,g1,g2,g3,g4,g5,aZ⟩
              · rw[ho] at hg;simp at hg
              · exact dm h ha hd (.lit _) hW.2 (eO hk _ _ _ aZ)
              · exact dm h ha hd (.lit _) hW.2 (eO hk _ _ _ aZ)
              · exact dm h ha hd (.lit _) hW.2 (eO hk _ _ _ aZ)
            · exact hW.elim
          · rename_i sz rows he
            rw[he] at hx
            rcases hx.yg.inv with ⟨ad,cap,rfl,aZ⟩ | ⟨b,o,cap,f,aZ,_⟩
            · exact dm h ha hd (.lit _) hW.2 (eO hW.1 _ _ _ aZ)
            · exact dm h ha hd (.lit _) hW.2 (eO hW.1 _ _ _ aZ)
          · rename_i he
            rw[he] at hx
            exact dm h ha hd (.lit _) hW.2 (eO hW.1 _ _ _ hx.cH)
          · rename_i id he
            obtain ⟨hk,hW⟩:=hW
            split at hW
            · rename_i ag L ho
              obtain ⟨kt,ht⟩:=H0 hk
              rw[he] at hx
              obtain ⟨_,_,b,f,hb,aZ,jI,_⟩:=B1 h hx (id:=id) (ag:=ag) (L:=L) (by simp[lC,ho])
              refine dm h ha hd (.lit _) hW ?_
              simp[execOp,resolve,invoke,builtin,Builtin.len_,run_underlying ht,aZ,goInt,MapKept.run_getObj_map jI,gn,yn]
            · exact hW.elim
          · exact hW.elim
        · exact hW.elim
      case append =>
        simp only at hW
        split at hW
        · rename_i s x t t' cP jU
          have ea:=m4 _ cP
          have et:=EK _ jU
          subst ea
          subst et
          split at hW
          · rename_i z pre σ1 sz src hk hz BZ sv
            obtain ⟨⟨rfl,dT,a5,h0,kB,hlen,B7,qg⟩,hK⟩:=hW
            have aaU:p8 σ sz (ev σ s)=some (pre,σ1):=by rw[a5];exact BZ
            obtain ⟨oG,γ1,h1,h2,h3,h4,h5⟩:=aaV (P:=P) (oty:=type) h hk dT hz a5 h0 kB (E s) (E x) aaU sv hlen B7 qg
            refine z7 (γ1:=γ1) h4 h3 (by rw[h2];exact ha) hd h5 hK ?_
            simp[execOp,resolve,invoke,builtin,h1]
          · exact hW.elim
        · exact hW.elim
      case min =>
        simp only at hW
        split at hW
        · rename_i x y cP
          have ea:=m4 _ cP
          subst ea
          have hx:=E x
          have hy:=E y
          split at hW
          · rename_i k p k' q he hf
            rw[he] at hx
            rw[hf] at hy
            obtain ⟨rfl,hK⟩:=hW
            refine dm h ha hd (.lit _) hK ?_
            have e:(if q<p then q else p)=min p q:=by simp only[Int.min_def];split<;>split<;>omega
            simp[execOp,resolve,invoke,builtin,Builtin.min_,Builtin.min2,hx.cH,hy.cH,e]
          · exact hW.elim
        · exact hW.elim
      case max =>
        simp only at hW
        split at hW
        · rename_i x y cP
          have ea:=m4 _ cP
          subst ea
          have hx:=E x
          have hy:=E y
          split at hW
          · rename_i k p k' q he hf
            rw[he] at hx
            rw[hf] at hy
            obtain ⟨rfl,hK⟩:=hW
            refine dm h ha hd (.lit _) hK ?_
            have e:(if q > p then q else p)=max p q:=by simp only[Int.max_def];split<;>split<;>omega
            simp[execOp,resolve,invoke,builtin,Builtin.max_,Builtin.max2,hx.cH,hy.cH,e]
          · exact hW.elim
        · exact hW.elim
      case copy =>
        simp only at hW
        split at hW
        · rename_i s x t t' cP jU
          have ea:=m4 _ cP
          have et:=EK _ jU
          subst ea
          subst et
          have hs:=E s
          split at hW
          · rename_i id sz off len cJ src he sv
            rw[he] at hs
            split at hW
            · rename_i kq rows ho
              obtain ⟨⟨hk,dT,rfl,rfl,a5,h0,qg⟩,hK⟩:=hW
              obtain ⟨w',h1,h2,h3⟩:=aaW (P:=P) (t':=t') (oty:=type) h hk dT a5 h0 hs (E x) ho sv qg
              refine z7 (γ1:={ γ with w:=w' }) h3 h2 ha hd (.lit _) hK ?_
              simp[execOp,resolve,invoke,builtin,h1]
            · exact hW.elim
          · exact hW.elim
        · exact hW.elim
      case clear =>
        simp only at hW
        split at hW
        · rename_i s t cP jU
          have ea:=m4 _ cP
          have et:=EK _ jU
          subst ea
          subst et
          have hs:=E s
          split at hW
          · rename_i id sz off len z he hz
            rw[he] at hs
            split at hW
            · rename_i cJ rows ho
              obtain ⟨⟨hk,dT,rfl,kB,h0,EL⟩,hK⟩:=hW
              obtain ⟨w',h1,h2,h3⟩:=aaX (P:=P) (oty:=type) h hk dT kB h0 hz EL hs ho
              refine z7 (γ1:={ γ with w:=w' }) h3 h2 ha hd (.lit _) hK ?_
              simp[execOp,resolve,invoke,builtin,h1]
            · exact hW.elim
          · exact hW.elim
        · exact hW.elim
      all_goals exact hW.elim
  case convert s d x =>
    simp only at hW
    have hx:=E x
    split at hW
    · rename_i k k' n ss he
      rw[he] at hx
      obtain ⟨hu,hK⟩:=hW
      obtain ⟨u,hu⟩:=Option.isSome_iff_exists.1 hu
      refine dm h ha hd (.lit _) hK ?_
      simp[execOp,convert,run_underlying hu,run_underlying ss,hx.cH,Conv.intToInt]
    · exact hW.elim
  all_goals exact hW.elim
end Go.Am

