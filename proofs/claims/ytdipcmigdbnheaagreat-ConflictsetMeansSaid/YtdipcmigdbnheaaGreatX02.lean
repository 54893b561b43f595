import Derived.Test.YtdipcmigdbnheaaGreatX01
import Derived.MapKept
import Derived.Laws.StructEq
set_option linter.unusedVariables false
set_option linter.unusedSimpArgs false
set_option linter.unnecessarySimpa false
set_option linter.unusedSectionVars false
set_option maxHeartbeats 64000000
set_option maxRecDepth 20000
open List renaming getElem?_take→sn,getElem?_drop→nr,getElem?_set→b6,getElem?_eq_some_iff→aQ,ext_getElem→JC,length_append→bV,length_singleton→v8,mem_append→cr,mem_singleton→eM,getElem?_append_left→cn,getElem?_append_right→eK,getElem?_cons_zero→sk,ext_getElem?→nt,length_set→bI,mem_or_eq_of_mem_set→pY,getElem?_eq_getElem→bX,getD_eq_getElem?_getD→aA,getElem?_concat_length→B5,getElem?_map→cm,replicate→bY,range→aN,range_succ→tE,flatMap_append→qU
open Nat renaming add_mul→fj,le_refl→aG,sub_self→j8,ne_of_lt→lz,lt_or_ge→eF,sub_zero→uL,zero_add→fi,add_assoc→uN
open Option renaming some→cY,map_some→gf,map_none→nu,getD_some→mP,bind_some→sm
open Array renaming range→Fg,getElem?_eq_some_iff→oA,getElem?_setIfInBounds_ne→wa,getElem?_toList→zA,getD_eq_getD_getElem?→eY
namespace Go.Am
theorem X7 {P:Program} (w:World) (t e:TypeId) (a:Option Addr) (n c:Nat) (ht:P.underlying t=some (.slice e)) :
    (binOp .eql t (.slice a n c) (.slice none 0 0)).run P w=.ok (.bool a.isNone) w:=by
  have h:∀ d:Nat,(Op.equalIn (d+1) t (.slice a n c) (.slice none 0 0)).run P w=.ok a.isNone w:=fun d=>by
    cases a<;>simp[Op.equalIn,run_underlying ht]
  simp only[binOp]
  simp[Op.equal,Op.maxDepth,h 9999]
theorem X8 {P:Program} (w:World) (t e:TypeId) (a:Option Addr) (n c:Nat) (ht:P.underlying t=some (.slice e)) :
    (binOp .neq t (.slice a n c) (.slice none 0 0)).run P w=.ok (.bool (!a.isNone)) w:=by
  have h:∀ d:Nat,(Op.equalIn (d+1) t (.slice a n c) (.slice none 0 0)).run P w=.ok a.isNone w:=fun d=>by
    cases a<;>simp[Op.equalIn,run_underlying ht]
  simp only[binOp]
  simp[Op.equal,Op.maxDepth,h 9999]
variable {P:Program}
theorem X9 (w:World) (t:TypeId) {e:TypeId} (a:Addr) (n c:Nat) (ht:P.underlying t=some (.slice e)) :
    (binOp .eql t (.slice (some a) n c) (.slice none 0 0)).run P w=.ok (.bool false) w:=by
  have h:∀ d:Nat,(Op.equalIn (d+1) t (.slice (some a) n c) (.slice none 0 0)).run P w=.ok false w:=fun d=>by
    simp[Op.equalIn,run_underlying ht]
  simp only[binOp]
  simp[Op.equal,Op.maxDepth,h 9999]
theorem Ya (w:World) (t:TypeId) {e:TypeId} (a:Addr) (n c:Nat) (ht:P.underlying t=some (.slice e)) :
    (binOp .neq t (.slice (some a) n c) (.slice none 0 0)).run P w=.ok (.bool true) w:=by
  have h:∀ d:Nat,(Op.equalIn (d+1) t (.slice (some a) n c) (.slice none 0 0)).run P w=.ok false w:=fun d=>by
    simp[Op.equalIn,run_underlying ht]
  simp only[binOp]
  simp[Op.equal,Op.maxDepth,h 9999]
theorem ay.F9 {os:List Ob} {w:World} {Z:Nat→Prop} {blk:fQ} {id r c:Nat} {cv:Value} (h:ay os w Z blk (.ptr id r c) cv) :
    os[id]?=some .gone∨(∃ b cap cells,os[id]?=some (.var cells)∧blk id=some (b,0,cap)∧r=0∧cv=.pointer (some ⟨b,c,none⟩)) ∨
    (∃ sz b o cap rows,os[id]?=some (.arr sz rows)∧blk id=some (b,o,cap)∧cv=.pointer (some ⟨b,o+(r * sz+c),none⟩)):=by
  cases h with
  | bW _ _ h=>cases h
  | lU _ _ _ _ h=>exact .inl h
  | mu _ _ b cap cells h hb=>exact .inr (.inl ⟨b,cap,cells,h,hb,rfl,rfl⟩)
  | mY _ _ _ sz b o cap rows h hb=>exact .inr (.inr ⟨sz,b,o,cap,rows,h,hb,rfl⟩)
theorem ay.LV {os:List Ob} {w:World} {Z:Nat→Prop} {blk:fQ} {cells:List AV} {cv:Value} (h:ay os w Z blk (.b7 cells) cv) :
    ∃ b o,∃ f:Nat→Value,cv=.pointer (some ⟨b,o,none⟩)∧Z b∧(∀ j x,cells[j]?=some x→w.cell? ⟨b,o+j,none⟩=some (f j))∧∀ j x,cells[j]?=some x→gF w Z x (f j):=by
  cases h with
  | bW _ _ h=>cases h
  | b7 _ b o f h1 h2 h3=>exact⟨b,o,f,rfl,h1,h2,h3⟩
theorem ay.Ga {os:List Ob} {w:World} {Z:Nat→Prop} {blk:fQ} {id sz off len:Nat} {cv:Value} (h:ay os w Z blk (.ref id sz off len) cv) :
    os[id]?=some .gone∨(os[id]?=some (.arr sz [])∧blk id=none∧off=0∧len=0∧cv=.slice none 0 0) ∨
    (len=0∧∃ b x bo rows,os[id]?=some (.arr sz rows)∧blk id=some (b,bo)∧off≤rows.length∧cv=.slice (some ⟨b,x,none⟩) 0 0) ∨
    (∃ b o cap cap' rows,os[id]?=some (.arr sz rows)∧blk id=some (b,o,cap)∧off+len≤rows.length∧off+cap'≤cap∧len≤cap'∧cv=.slice (some ⟨b,o+off * sz,none⟩) len cap'):=by
  cases h with
  | bW _ _ h=>cases h
  | kh _ _ _ _ _ h=>exact .inl h
  | lE _ _ h hb=>exact .inr (.inl ⟨h,hb,rfl,rfl,rfl⟩)
  | lV _ _ _ b x bo rows h hb hl=>exact .inr (.inr (.inl ⟨rfl,b,x,bo,rows,h,hb,hl,rfl⟩))
  | ref _ _ _ _ b o cap cap' rows h hb hl hc kX=>exact .inr (.inr (.inr ⟨b,o,cap,cap',rows,h,hb,hl,hc,kX,rfl⟩))
theorem ay.Lv {os:List Ob} {w:World} {Z:Nat→Prop} {blk:fQ} {cs:List AV} {cv:Value} (h:ay os w Z blk (.agg cs) cv) :
    ∃ aZ,cv=.agg aZ∧aZ.size=cs.length∧∀ j x,cs[j]?=some x→ay os w Z blk x (aZ.getD j Go.undef):=by
  cases h with
  | bW _ _ h=>cases h
  | agg _ aZ h1 h2=>exact⟨aZ,rfl,h1,h2⟩
theorem ay.Lw {os:List Ob} {w:World} {Z:Nat→Prop} {blk:fQ} {cs:List AV} {cv:Value} (h:ay os w Z blk (.bG cs) cv) :
    ∃ aZ,cv=.tuple aZ∧aZ.size=cs.length∧∀ j x,cs[j]?=some x→ay os w Z blk x (aZ.getD j Go.undef):=by
  cases h with
  | bW _ _ h=>cases h
  | bG _ aZ h1 h2=>exact⟨aZ,rfl,h1,h2⟩
theorem ay.LJ {os:List Ob} {w:World} {Z:Nat→Prop} {blk:fQ} {f:FuncId} {cs:List AV} {cv:Value} (h:ay os w Z blk (.fn f cs) cv) :
    ∃ aZ,cv=.func (.func f) #[] aZ∧aZ.size=cs.length∧∀ j x,cs[j]?=some x→ay os w Z blk x (aZ.getD j Go.undef):=by
  cases h with
  | bW _ _ h=>cases h
  | fn _ _ aZ h1 h2=>exact⟨aZ,rfl,h1,h2⟩
theorem ay.LK {os:List Ob} {w:World} {Z:Nat→Prop} {blk:fQ} {t:TypeId} {v:AV} {cv:Value} (h:ay os w Z blk (.gJ t v) cv) :∃x,cv=.iface t x∧ay os w Z blk v x:=by
  cases h with
  | bW _ _ h=>cases h
  | gJ _ _ x h=>exact⟨x,rfl,h⟩
theorem gF.inv {w:World} {Z:Nat→Prop} {sz:Nat} {rows:List (List AV)} {cv:Value} (h:gF w Z (.tree sz rows) cv) :
    (∃ a cap,rows=[]∧cv=.slice a 0 cap)∨∃ b o cap,∃ f:Nat→Nat→Value,cv=.slice (some ⟨b,o,none⟩) rows.length cap∧Z b∧(∀ row∈rows,row.length=sz)∧rows.length≤cap ∧
      (∀ r c x,cellAt rows r c=some x→w.cell? ⟨b,o+(r * sz+c),none⟩=some (f r c))∧∀ r c x,cellAt rows r c=some x→gF w Z x (f r c):=by
  cases h with
  | nil _ cap a=>exact .inl ⟨a,cap,rfl,rfl⟩
  | tree _ _ b o cap f h1 h2 h3 h4 h5=>exact .inr ⟨b,o,cap,f,rfl,h1,h2,h3,h4,h5⟩
theorem gF.sub {w:World} {Z:Nat→Prop} {sz:Nat} {rows:List (List AV)} {b o cap cap':Nat} {f:Nat→Nat→Value} (hz:Z b) (hr:∀ row∈rows,row.length=sz)
    (hc:∀ r c x,cellAt rows r c=some x→w.cell? ⟨b,o+(r * sz+c),none⟩=some (f r c)) (ht:∀ r c x,cellAt rows r c=some x→gF w Z x (f r c)) (lo n:Nat) (hn:n≤cap') (_hcap:rows.length≤cap) (gZ:lo+n≤rows.length) :
    gF w Z (.tree sz ((rows.drop lo).take n)) (.slice (some ⟨b,o+lo * sz,none⟩) n cap'):=by
  have hlen:((rows.drop lo).take n).length=n:=by simp;omega
  have nA:∀ r c x,cellAt ((rows.drop lo).take n) r c=some x→cellAt rows (lo+r) c=some x:=by
    intro r c x hx
    simp only[cellAt,sn,nr] at hx
    split at hx
    · exact hx
    · simp at hx
  have:=gF.tree (w:=w) (Z:=Z) sz ((rows.drop lo).take n) b (o+lo * sz) cap' (fun r c=>f (lo+r) c) hz (fun row h=>hr row (List.mem_of_mem_drop (List.mem_of_mem_take h))) (by omega)
    (fun r c x hx=>by
      have h1:=hc _ _ _ (nA r c x hx)
      rw[fj] at h1
      have e:o+(lo * sz+r * sz+c)=o+lo * sz+(r * sz+c):=by omega
      rw[e] at h1
      exact h1) (fun r c x hx=>ht _ _ _ (nA r c x hx))
  rw[hlen] at this
  exact this
theorem CQ {o:Oper} {σ:St} {γ:Cx} {a:Act} {K:St→Prop} (h:bq σ γ) (ha:γ.tmps=a.tmps) (hd:∀ d,o.dst=some d→d<a.tmps.size) {ob:Ob} {cur:Array Value} {t:TypeId} {cap:Nat}
    (aT:rn σ.aa γ.w γ.Z γ.blk 0 cap cur ob) {v:AV} {cv:Value}
    (hv:ay (σ.aa++[ob]) (γ.w.alloc (.cells cur t)) γ.Z (cS γ.blk σ.aa.length (some (γ.w.heap.size,0,cap))) v cv)
    (hK:K (({ σ with aa:=σ.aa++[ob] }:St).put o.dst v)) {r:Result Next} (hr:r=.ok (.value cv) (γ.w.alloc (.cells cur t))):wK o σ γ a K r :=
  yf (σ1:={ σ with aa:=σ.aa++[ob] }) (γ1:={ γ with w:=γ.w.alloc (.cells cur t),blk:=cS γ.blk σ.aa.length (some (γ.w.heap.size,0,cap)) })
    (Fr.push (t:=t) (cur:=cur) ob rfl rfl rfl rfl) (h.push (t:=t) (cur:=cur) rfl aT) ha hd hv hK hr
theorem yg (iO:List (Value × Value)):(fS iO).toList=iO.mapIdx fun i p=>(⟨p.1,p.2,i⟩:MapEntry):=by simp[fS]
theorem LW (L:List (Value × Value)) (p:Value × Value):(fS L).push ⟨p.1,p.2,L.length⟩=fS (L++[p]):=by
  apply Array.toList_inj.1
  rw[Array.toList_push,yg,yg,List.mapIdx_append]
  simp
theorem Gb (L:List (Value × Value)) (i:Nat) (f:MapEntry→MapEntry) (p:Value × Value) (hf:∀ q,L[i]?=some q→f ⟨q.1,q.2,i⟩=⟨p.1,p.2,i⟩):(fS L).modify i f=fS (L.set i p):=by
  apply Array.ext_getElem?
  intro j
  rw[Array.getElem?_modify]
  simp only[fS,List.getElem?_toArray,List.getElem?_mapIdx,b6]
  by_cases h:i=j
  · subst h
    rw[if_pos rfl,if_pos rfl]
    cases hq:L[i]? with
    | none =>
      have:¬ i<L.length:=by
        have:=List.getElem?_eq_none_iff.1 hq;omega
      simp[this]
    | some q =>
      have:i<L.length:=(aQ.1 hq).1
      simp[this,hf q hq]
  · rw[if_neg h,if_neg h]
theorem wL (ag:Nat) (f:Nat→Value) (L:List (List Int × AV)):(dr ag f L).length=L.length:=by unfold dr;simp
theorem rp (ag:Nat) (f:Nat→Value) (L:List (List Int × AV)) (j:Nat):(dr ag f L)[j]?=(L[j]?).map fun p=>(kV ag p.1,f j):=by unfold dr;simp
theorem wM {l:List Int}:∀ {L:List (List Int × AV)} {i j:Nat},jx l L i=some j→i≤j∧∃ v,L[j - i]?=some (l,v)
  | [],_,_,h=>by cases h
  | p::r,i,j,h=>by
    rw[jx] at h
    split at h
    · rename_i hp
      cases h
      exact⟨aG _,p.2,by rw[j8];simp[← hp]⟩
    · obtain ⟨h1,v,h2⟩:=wM h
      have e:j - i=(j - (i+1))+1:=by omega
      exact⟨by omega,v,by rw[e,List.getElem?_cons_succ];exact h2⟩
theorem z9 {σ:St} {γ:Cx} (h:bq σ γ) {v:AV} {cv:Value} (hv:ay σ.aa γ.w γ.Z γ.blk v cv) {id ag:Nat} {L:List (List Int × AV)} (hm:kZ σ v=some (id,ag,L)) :
    v=.gk id∧σ.aa[id]?=some (.mp ag L)∧∃ b,∃ f:Nat→Value,γ.blk id=some (b,0,0)∧cv=.map (some b)∧γ.w.heap[b]?=some (.map (fS (dr ag f L)) L.length)∧(∀ p∈L,p.1.length=jH ag)∧∀ (j:Nat) p,L[j]?=some p→ay σ.aa γ.w γ.Z γ.blk p.2 (f j):=by
  unfold kZ at hm
  split at hm
  · rename_i wz
    split at hm
    · rename_i iy L' ho
      simp only[cY.injEq,Prod.mk.injEq] at hm
      obtain ⟨rfl,rfl,rfl⟩:=hm
      obtain ⟨b,f,h1,h2,h3,h4⟩:=h.ez _ _ ho
      cases hv with
      | bW _ _ h=>cases h
      | pz _ _ h' _=>rw[ho] at h';simp at h'
      | gk _ b' _ _ h' hb =>
        rw[h1] at hb
        simp only[cY.injEq,Prod.mk.injEq,and_true] at hb
        subst hb
        exact⟨rfl,ho,b,f,h1,rfl,h2,h3,h4⟩
    · cases hm
  · cases hm
theorem Gc {os:List Ob} {w:World} {Z:Nat→Prop} {blk:fQ} {v:AV} {cv:Value} (hv:ay os w Z blk v cv) {ag:Nat} {l:List Int} (hk:keyOf v=some (ag,l)) (hl:l.length=jH ag):cv=kV ag l:=by
  unfold keyOf at hk
  split at hk
  · simp only[cY.injEq,Prod.mk.injEq] at hk
    obtain ⟨rfl,rfl⟩:=hk
    rw[hv.cM];rfl
  · rename_i cs
    cases hi:nH cs with
    | none=>simp[hi] at hk
    | some as =>
      simp only[hi,gf,cY.injEq,Prod.mk.injEq] at hk
      obtain ⟨rfl,rfl⟩:=hk
      have:=Gd hv hi
      rw[this]
      unfold jH at hl
      unfold kV
      by_cases h0:as.length=0
      · rw[if_pos h0] at hl;omega
      · rw[if_neg h0]
  · cases hk
theorem Yb {t:TypeId} {ag:Nat} (rq:ke P t ag) {z:Value} {w:World} (hz:∀ kt et,P.underlying t=some (.map kt et)→(zeroValue et).run P w=.ok z w) {b:Nat} {f:Nat→Value} {L:List (List Int × AV)}
    (hb:w.heap[b]?=some (.map (fS (dr ag f L)) L.length)) (hL:∀ p∈L,p.1.length=jH ag) {l:List Int} (hl:l.length=jH ag) :
    (Instr.lookup t (.map (some b)) (kV ag l) false).run P w=.ok (((jx l L 0).map f).getD z) w:=by
  obtain ⟨kt,et,ht,hk⟩:=rq
  obtain ⟨h1,h2,h3⟩:=hk l hl
  simp only[Instr.lookup,Sem.run_bind,run_underlying ht,MapKept.run_getObj_map hb,h1,h3 f L w hL,Result.andThen_ok,Sem.run_pure]
  cases h:jx l L 0 with
  | none=>simp[hz kt et ht]
  | some q=>simp
theorem Yc {t:TypeId} {ag:Nat} (rq:ke P t ag) {w:World} {b:Nat} {f:Nat→Value} {L:List (List Int × AV)}
    (hb:w.heap[b]?=some (.map (fS (dr ag f L)) L.length)) (hL:∀ p∈L,p.1.length=jH ag) {l:List Int} (hl:l.length=jH ag) (v:AV) (cv:Value) :
    ∃ f':Nat→Value,(Instr.mapUpdate t (.map (some b)) (kV ag l) cv).run P w=.ok () { w with heap:=w.heap.setIfInBounds b (.map (fS (dr ag f' (fo l v L))) (fo l v L).length) } ∧
      (∀ p∈fo l v L,p.1.length=jH ag)∧∀ (j:Nat) p,(fo l v L)[j]?=some p→(p.2=v∧f' j=cv)∨(L[j]?=some p∧f' j=f j):=by
  obtain ⟨kt,et,ht,hk⟩:=rq
  obtain ⟨h1,h2,h3⟩:=hk l hl
  simp only[Instr.mapUpdate,Sem.run_bind,run_underlying ht,MapKept.run_getObj_map hb,h1,h3 f L w hL,Result.andThen_ok]
  unfold fo
  cases h:jx l L 0 with
  | none =>
    refine⟨fun j=>if j=L.length then cv else f j,?_,fun p hp=>?_,fun j p hp=>?_⟩
    · have e:=LW (dr ag f L) (kV ag l,cv)
      rw[wL] at e
      have e2:dr ag f L++[(kV ag l,cv)]=dr ag (fun j=>if j=L.length then cv else f j) (L++[(l,v)]):=by
        unfold dr
        rw[List.mapIdx_append]
        congr 1
        · apply JC
          · simp
          · intro j h5 h6
            have:j<L.length:=by simpa using h5
            simp[lz this]
        · simp
      simp only[nu,MapKept.run_setObj_map _ hb,e,e2,bV,v8]
    · rcases cr.1 hp with hp | hp
      · exact hL p hp
      · rw[eM.1 hp];exact hl
    · rcases eF j L.length with hj | hj
      · rw[cn hj] at hp
        exact .inr ⟨hp,by dsimp only;rw[if_neg (by omega)]⟩
      · rw[eK hj] at hp
        have:j=L.length:=by
          have:=(aQ.1 hp).1
          simp at this;omega
        subst this
        simp only[j8,sk,cY.injEq] at hp
        subst hp
        exact .inl ⟨rfl,by dsimp only;rw[if_pos rfl]⟩
  | some q =>
    obtain ⟨_,u,hu⟩:=wM h
    rw[uL] at hu
    have hq:=(aQ.1 hu).1
    refine⟨fun j=>if j=q then cv else f j,?_,fun p hp=>?_,fun j p hp=>?_⟩
    · have Ge:(((fS (dr ag f L))[q]?).map (·.key)).getD (kV ag l)=kV ag l:=by
        simp[fS,rp,hu]
      have e:=Gb (dr ag f L) q (fun e=>{ e with key:=kV ag l,val:=cv }) (kV ag l,cv) (fun _ _=>rfl)
      have e2:(dr ag f L).set q (kV ag l,cv)=dr ag (fun j=>if j=q then cv else f j) (L.set q (l,v)):=by
        apply nt
        intro j
        rw[b6,rp,rp,b6,wL]
        by_cases hj:q=j
        · subst hj;simp[hq]
        · rw[if_neg hj,if_neg hj,if_neg (Ne.symm hj)]
      simp only[gf,Ge,h2,Result.andThen_ok,MapKept.run_setObj_map _ hb,Sem.run_bind]
      rw[e,e2,bI]
    · rcases pY hp with hp | hp
      · exact hL p hp
      · rw[hp];exact hl
    · simp only[b6] at hp
      by_cases hj:q=j
      · subst hj
        rw[if_pos rfl,if_pos hq] at hp
        cases hp
        exact .inl ⟨rfl,by dsimp only;rw[if_pos rfl]⟩
      · rw[if_neg hj] at hp
        exact .inr ⟨hp,by dsimp only;rw[if_neg (Ne.symm hj)]⟩
theorem bq.Yd {σ:St} {γ:Cx} (h:bq σ γ) {id:Nat} {ob ob':Ob} (ho:σ.aa[id]?=some ob) (hg:ob≠.gone) (q9:ob.dW ob') {b o cap:Nat} (hb:γ.blk id=some (b,o,cap))
    {w':World} (m0:∀ k,k≠b→w'.heap[k]?=γ.w.heap[k]?):∀ v cv,ay σ.aa γ.w γ.Z γ.blk v cv→ay (σ.aa.set id ob') w' γ.Z γ.blk v cv:=by
  have cV:id<σ.aa.length:=(aQ.1 ho).1
  have oJ:Live σ.aa id:=⟨ob,ho,hg⟩
  exact fun v cv hv =>
    hv.mono (fun z hz=>⟨hz,m0 z (fun e=>h.nz b ⟨id,o,cap,oJ,hb⟩ (e ▸ hz))⟩) (fun i x hx=>by
      rw[b6]
      by_cases lG:id=i
      · subst lG
        rw[ho] at hx
        simp at hx
        subst hx
        right
        refine⟨rfl,ob',by simp[cV],q9⟩
      · rw[if_neg lG]
        by_cases cQ:x=.gone
        · subst cQ;exact .inl hx
        · exact .inr ⟨rfl,x,hx,Ob.jG cQ⟩)
theorem Ye {t:TypeId} {ag:Nat} (rq:ke P t ag) {z:Value} {w:World} (hz:∀ kt et,P.underlying t=some (.map kt et)→(zeroValue et).run P w=.ok z w) {b:Nat} {f:Nat→Value} {L:List (List Int × AV)}
    (hb:w.heap[b]?=some (.map (fS (dr ag f L)) L.length)) (hL:∀ p∈L,p.1.length=jH ag) {l:List Int} (hl:l.length=jH ag) :
    ∃ f':Nat→Value,(Instr.mapEntry t (.map (some b)) (kV ag l)).run P w=.ok (.tuple #[((jx l L 0).map f).getD z,.int .i64 (x9 l L:Nat)]) { w with heap:=w.heap.setIfInBounds b (.map (fS (dr ag f' (fo l ((mV l L).getD (.lit z)) L))) (fo l ((mV l L).getD (.lit z)) L).length) } ∧
      (∀ p∈fo l ((mV l L).getD (.lit z)) L,p.1.length=jH ag)∧∀ (j:Nat) p,(fo l ((mV l L).getD (.lit z)) L)[j]?=some p→(p.2=(mV l L).getD (.lit z)∧f' j=((jx l L 0).map f).getD z)∨(L[j]?=some p∧f' j=f j):=by
  obtain ⟨kt,et,ht,hk⟩:=rq
  obtain ⟨h1,h2,h3⟩:=hk l hl
  generalize hv:(mV l L).getD (.lit z)=v
  simp only[Instr.mapEntry,Sem.run_bind,run_underlying ht,MapKept.run_getObj_map hb,h1,h3 f L w hL,Result.andThen_ok]
  unfold fo x9
  cases h:jx l L 0 with
  | none =>
    refine⟨fun j=>if j=L.length then z else f j,?_,fun p hp=>?_,fun j p hp=>?_⟩
    · have e:=LW (dr ag f L) (kV ag l,z)
      rw[wL] at e
      have e2:dr ag f L++[(kV ag l,z)]=dr ag (fun j=>if j=L.length then z else f j) (L++[(l,v)]):=by
        unfold dr
        rw[List.mapIdx_append]
        congr 1
        · apply JC
          · simp
          · intro j h5 h6
            have:j<L.length:=by simpa using h5
            simp[lz this]
        · simp
      simp only[nu,hz kt et ht,Result.andThen_ok,MapKept.run_setObj_map _ hb,Sem.run_bind,e,e2,bV,v8,Sem.run_pure,Option.getD_none,goInt]
    · rcases cr.1 hp with hp | hp
      · exact hL p hp
      · rw[eM.1 hp];exact hl
    · rcases eF j L.length with hj | hj
      · rw[cn hj] at hp
        exact .inr ⟨hp,by dsimp only;rw[if_neg (by omega)]⟩
      · rw[eK hj] at hp
        have:j=L.length:=by
          have:=(aQ.1 hp).1
          simp at this;omega
        subst this
        simp only[j8,sk,cY.injEq] at hp
        subst hp
        exact .inl ⟨rfl,by dsimp only;rw[if_pos rfl];rfl⟩
  | some q =>
    obtain ⟨_,u,hu⟩:=wM h
    rw[uL] at hu
    have hq:=(aQ.1 hu).1
    refine⟨f,?_,fun p hp=>?_,fun j p hp=>?_⟩
    · have Ge:(((fS (dr ag f L))[q]?).map (·.key)).getD (kV ag l)=kV ag l:=by
        simp[fS,rp,hu]
      have Yf:(((fS (dr ag f L))[q]?).map (fun e=>(e.born:Int))).getD 0=(q:Int):=by
        simp[fS,rp,hu]
      have e:=Gb (dr ag f L) q (fun e=>{ e with key:=kV ag l }) (kV ag l,f q) (fun x hx=>by
        rw[rp,hu] at hx
        cases hx
        rfl)
      have e2:(dr ag f L).set q (kV ag l,f q)=dr ag f (L.set q (l,v)):=by
        apply nt
        intro j
        rw[b6,rp,rp,b6,wL]
        by_cases hj:q=j
        · subst hj;simp[hq]
        · rw[if_neg hj,if_neg hj]
      simp only[gf,Ge,h2,Result.andThen_ok,MapKept.run_setObj_map _ hb,Sem.run_bind,Sem.run_pure,Yf,mP,goInt]
      rw[e,e2,bI]
    · rcases pY hp with hp | hp
      · exact hL p hp
      · rw[hp];exact hl
    · simp only[b6] at hp
      by_cases hj:q=j
      · subst hj
        rw[if_pos rfl,if_pos hq] at hp
        cases hp
        exact .inl ⟨rfl,rfl⟩
      · rw[if_neg hj] at hp
        exact .inr ⟨hp,rfl⟩
theorem Yg (iO:List (Value × Value)) {n:Nat} (hn:n<iO.length):(fS iO).findIdx? (fun e=>(e.born:Int) == (n:Int))=some n:=by
  unfold fS
  rw[List.findIdx?_toArray,List.findIdx?_eq_some_iff_getElem]
  refine⟨by simpa using hn,by simp,fun j hj=>?_⟩
  simp only[List.getElem_mapIdx]
  simp;omega
theorem Yh {t:TypeId} {ag:Nat} {w:World} {b:Nat} {f:Nat→Value} {L:List (List Int × AV)}
    (hb:w.heap[b]?=some (.map (fS (dr ag f L)) L.length)) {n:Nat} (hn:n<L.length) (v:AV) (cv:Value) :
    (Instr.entryStore t (.map (some b)) (.int .i64 (n:Nat)) cv).run P w=.ok () { w with heap:=w.heap.setIfInBounds b (.map (fS (dr ag (fun j=>if j=n then cv else f j) (oF n v L))) (oF n v L).length) }:=by
  have hf:=Yg (dr ag f L) (n:=n) (by rw[wL];exact hn)
  have e:=Gb (dr ag f L) n (fun e=>{ e with val:=cv }) (kV ag (L.getD n ([],.undef)).1,cv) (fun x hx=>by
    rw[rp,bX hn] at hx
    cases hx
    rw[aA,bX hn];rfl)
  have e2:(dr ag f L).set n (kV ag (L.getD n ([],.undef)).1,cv)=dr ag (fun j=>if j=n then cv else f j) (oF n v L):=by
    unfold oF
    apply nt
    intro j
    rw[b6,rp,rp,b6,wL]
    by_cases hj:n=j
    · subst hj;simp[hn]
    · rw[if_neg hj,if_neg hj,if_neg (Ne.symm hj)]
  simp only[Instr.entryStore,Sem.run_bind,MapKept.run_getObj_map hb,asInt,asIntOf,Sem.run_pure,Result.andThen_ok,hf,MapKept.run_setObj_map _ hb]
  rw[e,e2]
  simp[oF]
theorem Gf {P:Program} {t:TypeId} (h:(ty P t).kind=8) :∃kt,P.underlying t=some (.map kt (ty P t).elem):=by
  unfold ty at h ⊢
  cases hi:P.info? t<;>cases hd:P.underlying t<;>simp[hi,hd] at h ⊢
  rename_i i d
  cases d<;>simp at h ⊢
theorem XM {o:Oper} {σ:St} {K:St→Prop} (hW:cp P o σ K) {γ:Cx} (h:bq σ γ) {a:Act} (ha:γ.tmps=a.tmps) (hd:∀ d,o.dst=some d→d<a.tmps.size) :
    wK o σ γ a K ((execOp a.eval o).run P γ.w):=by
  obtain ⟨dst,op,type,pos,after,guard⟩:=o
  unfold cp at hW
  have E:=fun x=>sG h ha x
  cases op
  case move x=>exact dg h ha hd (E x) hW (by simp[execOp])
  case assign x=>exact dg h ha hd (E x) hW (by simp[execOp])
  case pick c x y =>
    simp only at hW
    have hc:=E c
    split at hW
    · rename_i t he
      rw[he] at hc
      have bd:=hc.cM
      refine dg h ha hd (v:=fm t (ev σ x) (ev σ y)) (cv:=if t then a.eval x else a.eval y) ?_ hW (by simp[execOp,bd,asBool])
      unfold fm
      split
      · rename_i x' y' h1 h2
        have hx:=E x
        have hy:=E y
        rw[h1] at hx
        rw[h2] at hy
        rw[hx.cM,hy.cM]
        cases t<;>exact .lit _
      · cases t
        · exact E y
        · exact E x
    · exact hW.elim
  case alloc e =>
    simp only at hW
    obtain ⟨aH,hW⟩:=hW
    split at hW
    · rename_i z hz
      obtain ⟨v,hv,Yi⟩:=LX aH hz γ.w
      obtain ⟨l1,l2⟩:=Gg (os:=σ.aa) (w:=γ.w) (Z:=γ.Z) (blk:=γ.blk) z
      refine CQ (ob:=.var (z.map .lit)) (v:=.ptr σ.aa.length 0 0) (cv:=.pointer (some ⟨γ.w.heap.size,0,none⟩)) (cap:=0) (cur:=z.toArray) (t:=e) h ha hd ⟨rfl,by simp,l2⟩ ?_ hW ?_
      · exact .mu _ 0 _ 0 _ (B5 ..) (by simp[cS])
      · simp[execOp,Instr.alloc,hv,newVar,newRow,Yi]
    · exact hW.elim
  case box e x =>
    simp only at hW
    obtain ⟨hs,hK⟩:=hW
    obtain ⟨c1,c2,c3⟩:=Gi (E x) hs
    refine CQ (ob:=.var (cellsOf (ev σ x))) (cv:=.pointer (some ⟨γ.w.heap.size,0,none⟩)) (cap:=0) (cur:=(a.eval x).cells) (t:=e) h ha hd ⟨rfl,c1,c2⟩ ?_ hK ?_
    · exact .mu _ 0 _ 0 _ (B5 ..) (by simp[cS])
    · simp[execOp,Instr.box,newVar,newRow]
  case build t parts =>
    simp only at hW
    split at hW
    · rename_i z hk hz
      split at hW
      · rename_i cs hf
        obtain ⟨⟨hs,hp⟩,hK⟩:=hW
        obtain ⟨cur,h1,h2⟩:=Yj h ha hk hz hf hs hp
        exact dg h ha hd h2 hK (by simp only[execOp,Sem.run_bind,h1,Result.andThen_ok,Sem.run_pure])
      · exact hW.elim
    · rename_i z hk hz
      split at hW
      · rename_i cs hf
        obtain ⟨⟨hs,hp⟩,hK⟩:=hW
        obtain ⟨cur,h1,h2⟩:=Yk h ha hk hz hf hs hp
        exact dg h ha hd h2 hK (by simp only[execOp,Sem.run_bind,h1,Result.andThen_ok,Sem.run_pure])
      · exact hW.elim
    · exact hW.elim
  case buildSlice t len parts =>
    simp only at hW
    split at hW
    · rename_i z hk hz
      split at hW
      · rename_i cs hf
        obtain ⟨⟨dU,h0,ki,Gj,hs⟩,hK⟩:=hW
        have ht:=ry hk
        obtain ⟨i,d,hi,CR,rz,_,hzero⟩:=rA dU
        obtain ⟨zv,Yl,ju⟩:=LX dU hz γ.w
        have CS:0<z.length:=by rw[ki];exact h0
        obtain ⟨hl,hr⟩:=Gk h ha parts
        obtain ⟨cur,f1,f2⟩:=CT (σ:=σ) (γ:=γ) _ _ _ _ cs hl hr (fun p hp=>by
          simp only[List.mem_map] at hp
          obtain ⟨q,hq,rfl⟩:=hp
          rw[List.all_eq_true] at hs
          exact hs q hq) (Gl z len (len * (ty P (ty P t).elem).size) (by rw[ki]) CS) hf
        have afv:cs.length=len * (ty P (ty P t).elem).size:=by
          have:=Gl (os:=σ.aa) (w:=γ.w) (Z:=γ.Z) (blk:=γ.blk) z len (len * (ty P (ty P t).elem).size) (by rw[ki]) CS
          have h1:∀ (parts:List (Nat × AV)) (cs pA:List AV) (place:Nat→Option (Nat × Nat)),lC place cs parts=some pA→pA.length=cs.length:=by
            intro parts
            induction parts with
            | nil=>intro cs pA place h;simp[lC] at h;rw[h]
            | cons p parts ih =>
              intro cs pA place h
              obtain ⟨i,v⟩:=p
              simp only[lC] at h
              split at h
              · simp at h
              · split at h
                · rw[ih _ _ _ h,Gm]
                · simp at h
          rw[h1 _ _ _ _ hf,← this.1]
          simp
        have hmul:len * (ty P (ty P t).elem).size≤16777216:=Gj
        have hlen:len≤maxLen:=by
          have:len * 1≤len * (ty P (ty P t).elem).size:=Nat.mul_le_mul_left _ h0
          unfold maxLen;omega
        have eQ:(Instr.buildSlice t len (parts.map fun (i,x)=>(i,a.eval x))).run P γ.w=.ok (.slice (some ⟨γ.w.heap.size,0,none⟩) len len) (γ.w.alloc (.cells cur (ty P t).elem)):=by
          have yh:¬ (len * (ty P (ty P t).elem).size > 2 ^ 24):=by omega
          by_cases hl0:len * (ty P (ty P t).elem).size=0
          · rw[hl0] at f1
            have e0:((Fg 0).map fun x=>(#[]:Array Value)[x % (#[]:Array Value).size]!)=((Fg 0).map (z.toArray[· % z.toArray.size]!)):=by simp
            simp only[Instr.buildSlice,Sem.run_bind,run_underlying ht,Result.andThen_ok,run_sizeOf dU,if_false,hl0,if_true,Sem.run_pure,Nat.not_lt_zero,gt_iff_lt]
            rw[e0,f1]
            simp[newRow]
          simp only[Instr.buildSlice,Sem.run_bind,run_underlying ht,Result.andThen_ok,run_sizeOf dU,yh,if_false,hl0,Yl,Sem.run_pure,ju]
          rw[show ((Fg (len * (ty P (ty P t).elem).size)).map fun x=>z.toArray[x % z.toArray.size]!)=((Fg (len * (ty P (ty P t).elem).size)).map (z.toArray[· % z.toArray.size]!)) from rfl,f1]
          simp[newRow]
        refine CQ (ob:=.arr (ty P (ty P t).elem).size (lD (ty P (ty P t).elem).size len cs)) (cv:=.slice (some ⟨γ.w.heap.size,0,none⟩) len len) (cap:=len) (cur:=cur) (t:=(ty P t).elem) h ha hd ?_ ?_ hK ?_
        · refine⟨h0,LY _ _ _ (by omega),by rw[f2.1];omega,by rw[Gn];omega,hlen,?_⟩
          intro r c v hv
          rw[fi]
          exact f2.2 _ _ (LZ _ _ _ _ _ _ hv)
        · have:=ay.ref (os:=σ.aa++[.arr (ty P (ty P t).elem).size (lD (ty P (ty P t).elem).size len cs)]) (w:=γ.w.alloc (.cells cur (ty P t).elem)) (Z:=γ.Z) (blk:=cS γ.blk σ.aa.length (some (γ.w.heap.size,0,len)))
            σ.aa.length (ty P (ty P t).elem).size 0 len γ.w.heap.size 0 len len _ (by simp;rfl) (by simp[cS]) (by rw[Gn];omega) (by omega) (aG _)
          simpa using this
        · simp only[execOp,Sem.run_bind,eQ,Result.andThen_ok,Sem.run_pure]
      · exact hW.elim
    · exact hW.elim
  case load t x =>
    simp only at hW
    obtain ⟨hk,hW⟩:=hW
    have hx:=E x
    split at hW
    · rename_i id r c he
      rw[he] at hx
      split at hW
      · rename_i row a7
        obtain ⟨v,nO,h1,h2,h3⟩:=F3 h hk hx a7 hW
        exact dg h ha hd h2 h3 (by simp only[execOp,Sem.run_bind,h1,Result.andThen_ok,Sem.run_pure])
      · exact hW.elim
    · rename_i cells he
      rw[he] at hx
      obtain ⟨v,nO,h1,h2,h3⟩:=Ym h hk hx hW
      exact dg h ha hd h2 h3 (by simp only[execOp,Sem.run_bind,h1,Result.andThen_ok,Sem.run_pure])
    · exact hW.elim
  case store t x y =>
    simp only at hW
    obtain ⟨hk,hW⟩:=hW
    have hx:=E x
    split at hW
    · rename_i id r c he
      rw[he] at hx
      split at hW
      · rename_i row a7
        obtain ⟨hc,hK⟩:=hW
        obtain ⟨w',h1,h2,h3⟩:=Yn h hk hx a7 (E y) hc
        exact Gp h3 h2 ha hd hK (by simp only[execOp,Sem.run_bind,h1,Result.andThen_ok,Sem.run_pure])
      · exact hW.elim
    · exact hW.elim
  case nilCheck x =>
    simp only at hW
    have hx:=E x
    split at hW
    · rename_i id r c he
      rw[he] at hx
      cases ho:σ.aa[id]? with
      | none=>simp[ho] at hW
      | some ob =>
        have cz:ob≠.gone∧K (σ.put dst (.ptr id r c)):=by cases ob<;>simp[ho] at hW ⊢<;>exact hW
        have bd :∃ad,a.eval x=.pointer (some ad):=by
          rcases hx.F9 with h | ⟨b,cap,cells,_,_,_,h⟩ | ⟨_,b,o,cap,rows,_,_,h⟩
          · rw[ho] at h;simp at h;exact absurd h cz.1
          · exact⟨_,h⟩
          · exact⟨_,h⟩
        obtain ⟨ad,bd⟩:=bd
        exact dg h ha hd hx cz.2 (by simp[execOp,bd])
    · rename_i cells he
      rw[he] at hx
      have bd :∃ad,a.eval x=.pointer (some ad):=by
        obtain ⟨b,o,f,h,_⟩:=hx.LV
        exact⟨_,h⟩
      obtain ⟨ad,bd⟩:=bd
      exact dg h ha hd hx hW (by simp[execOp,bd])
    · exact hW.elim
  case binOp op t x y yt =>
    simp only at hW
    have hx:=E x
    have hy:=E y
    split at hW
    · rename_i k p k' q he hf
      rw[he] at hx
      rw[hf] at hy
      obtain ⟨rfl,hW⟩:=hW
      obtain ⟨v,h1,h2⟩:=Yo (P:=P) hW t γ.w
      refine dg h ha hd (.lit v) h2 ?_
      simp[execOp,hx.cM,hy.cM,eqGuard,h1]
    · rename_i p q he hf
      rw[he] at hx
      rw[hf] at hy
      obtain ⟨hk,hW⟩:=hW
      have ht:=Yp hk
      split at hW
      · refine dg h ha hd (.lit _) hW ?_
        simp[execOp,hx.cM,hy.cM,eqGuard,run_eql_bool γ.w t p q ht]
      · refine dg h ha hd (.lit _) hW ?_
        simp[execOp,hx.cM,hy.cM,eqGuard,run_neq_bool γ.w t p q ht,bne]
      · exact hW.elim
    · rename_i sz rows he hf
      rw[he] at hx
      rw[hf] at hy
      obtain ⟨⟨hk,hr⟩,hW⟩:=hW
      have ht:=ry hk
      rcases hx.wF.inv with ⟨ad,cap,rfl,bd⟩ | ⟨b,o,cap,f,bd,_⟩
      · exact absurd hr (by simp)
      split at hW
      · refine dg h ha hd (.lit _) hW ?_
        simp[execOp,bd,hy.cM,eqGuard,X9 γ.w t _ _ _ ht]
      · refine dg h ha hd (.lit _) hW ?_
        simp[execOp,bd,hy.cM,eqGuard,Ya γ.w t _ _ _ ht]
      · exact hW.elim
    · rename_i ad n c he hf
      rw[he] at hx
      rw[hf] at hy
      obtain ⟨hk,hW⟩:=hW
      have ht:=ry hk
      split at hW
      · refine dg h ha hd (.lit _) hW ?_
        simp[execOp,hx.cM,hy.cM,eqGuard,X7 γ.w t _ _ _ _ ht]
      · refine dg h ha hd (.lit _) hW ?_
        simp[execOp,hx.cM,hy.cM,eqGuard,X8 γ.w t _ _ _ _ ht]
      · exact hW.elim
    · rename_i cs ds he hf
      rw[he] at hx
      rw[hf] at hy
      split at hW
      · rename_i as bs z' Gq
        obtain ⟨⟨hq,hlen,yi⟩,hW⟩:=hW
        have Aa:=Gd hx z'
        have wN:=Gd hy Gq
        have heq:=hq γ.w as bs rfl hlen
        split at hW
        · refine dg h ha hd (.lit _) hW ?_
          simp only[execOp,Aa,wN,Sem.run_bind,run_eqGuard_agg γ.w _ _ _ _ _ _ yi,run_eql_struct,heq,Result.andThen_ok,Sem.run_pure]
        · refine dg h ha hd (.lit _) hW ?_
          simp only[execOp,Aa,wN,Sem.run_bind,run_eqGuard_agg γ.w _ _ _ _ _ _ yi,run_neq_struct,heq,Result.andThen_ok,Sem.run_pure]
        · exact hW.elim
      · exact hW.elim
    · exact hW.elim
  case unOp op t x =>
    simp only at hW
    have hx:=E x
    split at hW
    · rename_i b he
      rw[he] at hx
      exact dg h ha hd (.lit _) hW (by simp[execOp,hx.cM,Op.unary])
    · rename_i k n he
      rw[he] at hx
      exact dg h ha hd (.lit _) hW.2 (by simp[execOp,hx.cM,Op.unary,Op.intArith,u9 hW.1])
    · exact hW.elim
  case makeMap t r =>
    simp only at hW
    obtain ⟨⟨rfl,hk⟩,hK⟩:=hW
    refine yf (σ1:={ σ with aa:=σ.aa++[.mp (x8 P t) []] }) (γ1:={ γ with w:=γ.w.alloc (.map #[] 0),blk:=cS γ.blk σ.aa.length (some (γ.w.heap.size,0,0)) })
      (Fr.Ab (cap:=0) _ rfl rfl rfl rfl) (h.Ab (cap:=0) rfl fun os' w' jU hR hb hx=>⟨_,fun _=>Go.undef,hb,hx,by simp,by simp⟩) ha hd
      (v:=.gk σ.aa.length) (cv:=.map (some γ.w.heap.size)) (.gk _ _ _ _ (B5 ..) (by simp[cS])) hK ?_
    simp[execOp,Instr.makeMap,newObj,Sem.run]
  case lookup t x i ok =>
    simp only at hW
    split at hW
    · rename_i ag l id iy L z ij nP mA
      obtain ⟨⟨rq,rfl,hl,CU,rfl⟩,hK⟩:=hW
      obtain ⟨kt,ht⟩:=Gf CU
      obtain ⟨_,ho,b,f,hb,bd,jJ,hL,k9⟩:=z9 h (E x) nP
      have Ad:=Gc (E i) ij hl
      have hz:∀ Ae wO,P.underlying t=some (.map Ae wO)→(zeroValue wO).run P γ.w=.ok z γ.w:=by
        intro Ae wO h'
        rw[ht] at h'
        cases h'
        unfold zeroV at mA
        split at mA
        · rename_i ii hi
          simp[zeroValue,typeInfo,hi,mA]
        · cases mA
      have eQ:=Yb (P:=P) rq hz jJ hL hl
      refine dg (cv:=((jx l L 0).map f).getD z) h ha hd ?_ hK (by simp only[execOp,bd,Ad,Sem.run_bind,eQ,Result.andThen_ok,Sem.run_pure])
      unfold mV
      cases hf:jx l L 0 with
      | none=>exact .lit z
      | some q =>
        obtain ⟨_,u,hu⟩:=wM hf
        rw[uL] at hu
        simp only[sm,hu,gf,mP]
        exact k9 q _ hu
    · exact hW.elim
  case mapUpdate t m k x =>
    simp only at hW
    split at hW
    · rename_i ag l id iy L ij nP
      obtain ⟨⟨rq,rfl,hl⟩,hK⟩:=hW
      obtain ⟨_,ho,b,f,hb,bd,jJ,hL,k9⟩:=z9 h (E m) nP
      have Ad:=Gc (E k) ij hl
      obtain ⟨f',eQ,Gr,fC⟩:=Yc (P:=P) rq jJ hL hl (ev σ x) (a.eval x)
      have mB:b<γ.w.heap.size:=(oA.1 jJ).1
      refine Gp (σ1:={ σ with aa:=σ.aa.set id (.mp iy (fo l (ev σ x) L)) }) (γ1:={ γ with w:={ γ.w with heap:=γ.w.heap.setIfInBounds b (.map (fS (dr iy f' (fo l (ev σ x) L))) (fo l (ev σ x) L).length) } })
        (Fr.write (.mp iy (fo l (ev σ x) L)) ho (by simp) rfl hb (fun k hk=>by simp[wa (Ne.symm hk)]) (by simp) rfl rfl rfl)
        (h.CV (ob':=.mp iy (fo l (ev σ x) L)) ho (by simp) rfl hb (fun k hk=>by simp[wa (Ne.symm hk)]) (by simp) fun os' hR=>⟨b,f',hb,by simp[mB],Gr,fun j p hp=>?_⟩) ha hd hK ?_
      · rcases fC j p hp with ⟨h1,h2⟩ | ⟨h1,h2⟩
        · rw[h1,h2];exact hR _ _ (E x)
        · rw[h2];exact hR _ _ (k9 j p h1)
      · simp only[execOp,bd,Ad,Sem.run_bind,eQ,Result.andThen_ok,Sem.run_pure]
    · exact hW.elim
  case mapEntry t m k =>
    simp only at hW
    split at hW
    · rename_i ag l id iy L z ij nP mA
      obtain ⟨⟨rq,rfl,hl,CU⟩,hK⟩:=hW
      obtain ⟨kt,ht⟩:=Gf CU
      obtain ⟨_,ho,b,f,hb,bd,jJ,hL,k9⟩:=z9 h (E m) nP
      have Ad:=Gc (E k) ij hl
      have hz:∀ Ae wO,P.underlying t=some (.map Ae wO)→(zeroValue wO).run P γ.w=.ok z γ.w:=by
        intro Ae wO h'
        rw[ht] at h'
        cases h'
        unfold zeroV at mA
        split at mA
        · rename_i ii hi
          simp[zeroValue,typeInfo,hi,mA]
        · cases mA
      obtain ⟨f',eQ,Gr,fC⟩:=Ye (P:=P) rq hz jJ hL hl
      have mB:b<γ.w.heap.size:=(oA.1 jJ).1
      have hold:ay σ.aa γ.w γ.Z γ.blk ((mV l L).getD (.lit z)) (((jx l L 0).map f).getD z):=by
        unfold mV
        cases hf:jx l L 0 with
        | none=>exact .lit z
        | some q =>
          obtain ⟨_,u,hu⟩:=wM hf
          rw[uL] at hu
          simp only[sm,hu,gf,mP]
          exact k9 q _ hu
      generalize (mV l L).getD (.lit z)=v at *
      generalize ((jx l L 0).map f).getD z=cv at *
      have Yq:∀ x y,ay σ.aa γ.w γ.Z γ.blk x y→ay (σ.aa.set id (.mp iy (fo l v L))) { γ.w with heap:=γ.w.heap.setIfInBounds b (.map (fS (dr iy f' (fo l v L))) (fo l v L).length) } γ.Z γ.blk x y :=
        h.Yd (ob':=.mp iy (fo l v L)) ho (by simp) rfl hb (fun k hk=>by simp[wa (Ne.symm hk)])
      refine yf (σ1:={ σ with aa:=σ.aa.set id (.mp iy (fo l v L)) }) (γ1:={ γ with w:={ γ.w with heap:=γ.w.heap.setIfInBounds b (.map (fS (dr iy f' (fo l v L))) (fo l v L).length) } })
        (Fr.write (.mp iy (fo l v L)) ho (by simp) rfl hb (fun k hk=>by simp[wa (Ne.symm hk)]) (by simp) rfl rfl rfl)
        (h.CV (ob':=.mp iy (fo l v L)) ho (by simp) rfl hb (fun k hk=>by simp[wa (Ne.symm hk)]) (by simp) fun os' hR=>⟨b,f',hb,by simp[mB],Gr,fun j p hp=>?_⟩) ha hd
        (v:=.bG [v,.lit (.int .i64 (x9 l L:Nat))]) (cv:=.tuple #[cv,.int .i64 (x9 l L:Nat)]) (.bG _ _ rfl fun j x hx=>?_) hK ?_
      · rcases fC j p hp with ⟨h1,h2⟩ | ⟨h1,h2⟩
        · rw[h1,h2];exact hR _ _ hold
        · rw[h2];exact hR _ _ (k9 j p h1)
      · match j,hx with
        | 0,hx=>cases hx;exact Yq _ _ hold
        | 1,hx=>cases hx;exact .lit _
      · simp only[execOp,bd,Ad,Sem.run_bind,eQ,Result.andThen_ok,Sem.run_pure]
    · exact hW.elim
  case entryStore t m s x =>
    simp only at hW
    split at hW
    · rename_i n id ag L hs nP
      obtain ⟨⟨dR,e9⟩,hK⟩:=hW
      obtain ⟨_,ho,b,f,hb,bd,jJ,hL,k9⟩:=z9 h (E m) nP
      have CW:=E s
      rw[hs] at CW
      have fF:=CW.cM
      have hn:n=((n.toNat:Nat):Int):=by omega
      have eQ:=Yh (P:=P) (t:=t) jJ (n:=n.toNat) (by omega) (ev σ x) (a.eval x)
      rw[← hn] at eQ
      have mB:b<γ.w.heap.size:=(oA.1 jJ).1
      refine Gp (σ1:={ σ with aa:=σ.aa.set id (.mp ag (oF n.toNat (ev σ x) L)) }) (γ1:={ γ with w:={ γ.w with heap:=γ.w.heap.setIfInBounds b (.map (fS (dr ag (fun j=>if j=n.toNat then a.eval x else f j) (oF n.toNat (ev σ x) L))) (oF n.toNat (ev σ x) L).length) } })
        (Fr.write (.mp ag (oF n.toNat (ev σ x) L)) ho (by simp) rfl hb (fun k hk=>by simp[wa (Ne.symm hk)]) (by simp) rfl rfl rfl)
        (h.CV (ob':=.mp ag (oF n.toNat (ev σ x) L)) ho (by simp) rfl hb (fun k hk=>by simp[wa (Ne.symm hk)]) (by simp) fun os' hR=>⟨b,fun j=>if j=n.toNat then a.eval x else f j,hb,by simp only[Array.getElem?_setIfInBounds_self_of_lt mB],fun p hp=>?_,fun j p hp=>?_⟩) ha hd hK ?_
      · unfold oF at hp
        rcases pY hp with hp | hp
        · exact hL p hp
        · have nN:n.toNat<L.length:=by omega
          rw[hp,aA,bX nN]
          exact hL L[n.toNat] (List.getElem_mem nN)
      · unfold oF at hp
        simp only[b6] at hp
        by_cases hj:n.toNat=j
        · subst hj
          rw[if_pos rfl,if_pos (by omega)] at hp
          cases hp
          dsimp only
          rw[if_pos rfl]
          exact hR _ _ (E x)
        · rw[if_neg hj] at hp
          dsimp only
          rw[if_neg (Ne.symm hj)]
          exact hR _ _ (k9 j p hp)
      · simp only[execOp,bd,fF,Sem.run_bind,eQ,Result.andThen_ok,Sem.run_pure]
    · exact hW.elim
  case index t x i =>
    simp only at hW
    split at hW
    · rename_i s k n hs hi
      obtain ⟨⟨hu,dR,e9⟩,hK⟩:=hW
      have hx:=E x
      rw[hs] at hx
      have hj:=E i
      rw[hi] at hj
      have bw:n.toNat<s.size:=by omega
      have hg:s[n.toNat]?=some s[n.toNat]:=by simp[bw]
      refine dg h ha hd (.lit _) hK ?_
      simp only[execOp,hx.cM,hj.cM,Instr.index,asIntOf,Sem.run_bind,Sem.run_pure,Result.andThen_ok,run_underlying hu,if_pos dR,hg,FR]
    · exact hW.elim
  case makeInterface t x =>
    simp only at hW
    obtain ⟨h1,hK⟩:=hW
    refine dg h ha hd (v:=.gJ t (ev σ x)) (cv:=.iface t (a.eval x)) (.gJ _ _ _ (E x)) hK ?_
    unfold tN at h1
    cases hu:P.underlying t with
    | none=>simp[hu] at h1
    | some d=>cases d<;>simp[hu] at h1<;>simp[execOp,Instr.makeInterface,run_underlying hu]
  case typeAssert x xt asserted ok =>
    simp only at hW
    have hx:=E x
    split at hW
    · rename_i t v he
      rw[he] at hx
      obtain ⟨cx,hc,hv⟩:=hx.LK
      obtain ⟨⟨h1,rfl,rfl⟩,hK⟩:=hW
      refine dg h ha hd hv hK ?_
      unfold tN at h1
      cases hu:P.underlying t with
      | none=>simp[hu] at h1
      | some d=>cases d<;>simp[hu] at h1<;>simp[execOp,hc,Instr.typeAssert,run_underlying hu]
    · exact hW.elim
  case makeFunc fn first captured =>
    simp only at hW
    split at hW
    · rename_i f
      obtain ⟨hf,hK⟩:=hW
      have Yr:first = #[]:=Array.eq_empty_of_size_eq_zero hf
      subst Yr
      refine dg h ha hd (v:=.fn f (captured.toList.map (ev σ))) (cv:=.func (.func f) #[] (captured.map a.eval)) ?_ hK (by simp[execOp,Instr.makeFunc])
      refine .fn _ _ _ (by simp) (fun j x hj=>?_)
      simp only[cm] at hj
      cases hc:captured.toList[j]? with
      | none=>simp[hc] at hj
      | some y =>
        simp[hc] at hj
        subst hj
        simp only[zA] at hc
        simp[eY,hc]
        exact E y
    · exact hW.elim
  case makeSlice t l c =>
    simp only at hW
    have hl:=E l
    have hc:=E c
    split at hW
    · rename_i z k n k' n' hk hz he hf
      rw[he] at hl
      rw[hf] at hc
      obtain ⟨⟨dU,h0,ki,rfl,dR,e9,Af,_⟩,hK,_⟩:=hW
      have ht:=ry hk
      obtain ⟨i,d,hi,CR,rz,Ag,hzero⟩:=rA dU
      obtain ⟨zv,wP,ju⟩ :∃zv,i.zero=some zv∧zv.cells=z.toArray:=by
        rw[hzero] at hz
        cases hv:i.zero with
        | none=>simp[hv] at hz
        | some v=>simp[hv] at hz;exact⟨v,rfl,by rw[← hz]⟩
      have hb:(i.bytes:Int) * n'≤281474976710656:=by
        have h1:(i.bytes:Int)≤128:=by rw[← Ag];exact_mod_cast Af
        have h2:(i.bytes:Int) * n'≤128 * n':=Int.mul_le_mul_of_nonneg_right h1 dR
        omega
      have hr:=run_make (P:=P) γ.w t _ i zv ht hi wP k k' n' n' dR (Int.le_refl _) hb (by omega)
      rw[← rz,ju] at hr
      have CS:0<z.length:=by rw[ki];exact h0
      obtain ⟨z1,z2⟩:=Gl (os:=σ.aa) (w:=γ.w) (Z:=γ.Z) (blk:=γ.blk) z n'.toNat (n'.toNat * (ty P (ty P t).elem).size) (by rw[ki]) CS
      refine CQ (ob:=.arr (ty P (ty P t).elem).size (bY n'.toNat (z.map .lit))) (cv:=.slice (some ⟨γ.w.heap.size,0,none⟩) n'.toNat n'.toNat) (cap:=n'.toNat) (cur:=madeCells z.toArray (n'.toNat * (ty P (ty P t).elem).size)) (t:=(ty P t).elem) h ha hd ?_ ?_ hK ?_
      · refine⟨h0,?_,by rw[size_madeCells];omega,by simp,by unfold maxLen;omega,?_⟩
        · intro row a7
          simp only[List.mem_replicate] at a7
          rw[a7.2];simp[ki]
        · intro r c v hv
          rw[fi]
          have cF:r<n'.toNat:=by
            simp only[cellAt,Option.bind_eq_some_iff] at hv
            obtain ⟨y,hy,_⟩:=hv
            have:=(aQ.1 hy).1
            simpa using this
          simp only[cellAt,List.getElem?_replicate,cF,if_true,sm] at hv
          have cE:c<(ty P (ty P t).elem).size:=by
            have:=(aQ.1 hv).1
            simp at this;omega
          have bw:=wG cF cE
          have hx:((aN n'.toNat).flatMap fun _=>z.map AV.lit)[r * (ty P (ty P t).elem).size+c]?=some v:=by
            have key:∀ (m r:Nat),r<m→((aN m).flatMap fun _=>z.map AV.lit)[r * z.length+c]?=(z.map AV.lit)[c]?:=by
              intro m
              have hlen:∀ m,((aN m).flatMap fun _=>z.map AV.lit).length=m * z.length:=by
                intro m
                induction m with
                | zero=>simp
                | succ m ih=>rw[tE,qU,bV,ih];simp[fj]
              induction m with
              | zero=>intro r hr;omega
              | succ m ih =>
                intro r hr
                rw[tE,qU]
                by_cases mC:r<m
                · rw[cn (by rw[hlen,ki];exact wG mC cE)]
                  exact ih r mC
                · have:r=m:=by omega
                  subst this
                  rw[eK (by rw[hlen];omega),hlen]
                  simp
            rw[← ki,key _ _ cF]
            exact hv
          exact z2 _ _ hx
      · have:=ay.ref (os:=σ.aa++[.arr (ty P (ty P t).elem).size (bY n'.toNat (z.map .lit))]) (w:=γ.w.alloc (.cells (madeCells z.toArray (n'.toNat * (ty P (ty P t).elem).size)) (ty P t).elem)) (Z:=γ.Z) (blk:=cS γ.blk σ.aa.length (some (γ.w.heap.size,0,n'.toNat)))
          σ.aa.length (ty P (ty P t).elem).size 0 n'.toNat γ.w.heap.size 0 n'.toNat n'.toNat _ (B5 ..) (by simp[cS]) (by simp) (by omega) (aG _)
        simpa using this
      · simp only[execOp,Sem.run_bind,hl.cM,hc.cM,hr,Result.andThen_ok,Sem.run_pure]
    · exact hW.elim
  case fieldAddr s x f =>
    simp only at hW
    have hx:=E x
    split at hW
    · rename_i off ft size hk eP
      obtain ⟨a9,hW⟩:=hW
      obtain ⟨fs,hu,tV⟩:=Gs hk
      obtain ⟨fd,CX,wC,iP⟩ :∃fd:Field,fs[f]?=some fd∧fd.offset=off∧tW P fd.type=size:=by
        rw[tV] at eP
        simp only[cm,zA] at eP
        cases hg:fs[f]? with
        | none=>simp[hg] at eP
        | some fd=>simp[hg] at eP;exact⟨fd,rfl,eP.1,eP.2.2⟩
      have eQ:∀ (b o:Nat),(Instr.fieldAt s (.pointer (some ⟨b,o,none⟩)) f).run P γ.w=.ok (.pointer (some ⟨b,o+off,none⟩)) γ.w:=by
        intro b o
        have Ys:(sizeOf fd.type).run P γ.w=.ok size γ.w:=by
          rw[← iP]
          unfold tW at iP ⊢
          cases hi:P.info? fd.type with
          | none=>rw[hi] at iP;simp at iP;omega
          | some i=>simp[sizeOf,typeInfo,hi]
        have dm:¬ size=0:=by omega
        simp[Instr.fieldAt,run_underlying hu,CX,Instr.sureAddr,fieldPlace,Ys,dm,Addr.qm,wC]
      split at hW
      · rename_i id r c he
        rw[he] at hx
        cases ho:σ.aa[id]? with
        | none=>simp[ho] at hW
        | some ob =>
          have cz:ob≠.gone∧K (σ.put dst (.ptr id r (c+off))):=by cases ob<;>simp[ho] at hW ⊢<;>exact hW
          rcases hx.F9 with hg | ⟨b,cap,cells,h1,h2,rfl,bd⟩ | ⟨sz,b,o,cap,rows,h1,h2,bd⟩
          · rw[ho] at hg;simp at hg;exact absurd hg cz.1
          · exact dg h ha hd (.mu id (c+off) b cap cells h1 h2) cz.2 (by simp only[execOp,Sem.run_bind,bd,eQ,Result.andThen_ok,Sem.run_pure])
          · refine dg h ha hd (.mY id r (c+off) sz b o cap rows h1 h2) cz.2 ?_
            simp only[execOp,Sem.run_bind,bd,eQ,Result.andThen_ok,Sem.run_pure]
            simp[uN]
      · rename_i cells he
        rw[he] at hx
        obtain ⟨b,o,g,bd,h1,h2,h3⟩:=hx.LV
        refine dg h ha hd (.b7 (cells.drop off) b (o+off) (fun j=>g (off+j)) h1 ?_ ?_) hW ?_
        · intro j x hj
          rw[nr] at hj
          have:=h2 _ _ hj
          simpa [uN] using this
        · intro j x hj
          rw[nr] at hj
          exact h3 _ _ hj
        · simp only[execOp,Sem.run_bind,bd,eQ,Result.andThen_ok,Sem.run_pure]
      · exact hW.elim
    · exact hW.elim
  case extract x i =>
    simp only at hW
    have hx:=E x
    split at hW
    · rename_i vs he
      rw[he] at hx
      obtain ⟨aZ,bd,hs,hr⟩:=hx.Lw
      split at hW
      · rename_i v hv
        have hi:i<aZ.size:=by rw[hs];exact (aQ.1 hv).1
        refine dg h ha hd (hr i v hv) hW ?_
        simp[execOp,bd,Instr.extract,hi,eY]
      · exact hW.elim
    · exact hW.elim
  case field s x f =>
    simp only at hW
    have hx:=E x
    split at hW
    · rename_i off ft size hk eP
      obtain ⟨dU,rz,hW⟩:=hW
      obtain ⟨fs,hu,tV⟩:=Gs hk
      obtain ⟨fd,CX,wC,iP⟩ :∃fd:Field,fs[f]?=some fd∧fd.offset=off∧fd.type=ft:=by
        rw[tV] at eP
        simp only[cm,zA] at eP
        cases hg:fs[f]? with
        | none=>simp[hg] at eP
        | some fd=>simp[hg] at eP;exact⟨fd,rfl,eP.1,eP.2.1⟩
      subst wC
      subst iP
      split at hW
      · rename_i cs he
        rw[he] at hx
        obtain ⟨aZ,bd,hs,hr⟩:=hx.Lv
        split at hW
        · rename_i jV
          refine dg h ha hd (v:=.agg ((cs.drop fd.offset).take size)) (cv:=.agg (aZ.extract fd.offset (fd.offset+size))) ?_ hW.2 ?_
          · have h1:=hW.1
            refine .agg _ _ (by simp;omega) (fun j y hj=>?_)
            have k8:j<size:=by have:=(aQ.1 hj).1;simp at this;omega
            rw[sn,if_pos k8,nr] at hj
            have:=hr _ _ hj
            simp[eY,Array.getElem?_extract] at this ⊢
            rw[if_pos (by omega)]
            exact this
          · simp[execOp,bd,Instr.field,run_underlying hu,CX,asAgg,part,Gt dU,run_sizeOf dU,jV,rz]
        · rename_i jV
          split at hW
          · rename_i v hv
            have hi:fd.offset<aZ.size:=by rw[hs];exact (aQ.1 hv).1
            refine dg h ha hd (hr _ v hv) hW ?_
            simp[execOp,bd,Instr.field,run_underlying hu,CX,asAgg,part,Gt dU,jV,hi,eY]
          · exact hW.elim
      · exact hW.elim
    · exact hW.elim
  case indexAddr t x i =>
    simp only at hW
    have hx:=E x
    have hi:=E i
    split at hW
    · rename_i id sz off len k n hk he hf
      rw[he] at hx
      rw[hf] at hi
      split at hW
      · rename_i cO rows ho
        obtain ⟨⟨rfl,a9,dU,h0,h1⟩,hK⟩:=hW
        have ht:=ry hk
        rcases hx.Ga with hg | ⟨_,_,_,rfl,_⟩ | ⟨rfl,_⟩ | ⟨b,o,cap,cap',fO,g1,g2,g3,g4,g5,bd⟩
        · rw[ho] at hg;simp at hg
        · omega
        · omega
        · refine dg h ha hd (.mY id (off+n.toNat) 0 _ b o cap fO g1 g2) hK ?_
          have hc:0≤n∧n<(len:Int):=⟨h0,h1⟩
          simp only[execOp,Sem.run_bind,Instr.indexAt,bd,hi.cM,asIntOf,Sem.run_pure,Result.andThen_ok,run_underlying ht,Sem.run_ite,hc,and_self,if_true,run_sizeOf dU,← a9,Addr.qm]
          simp[fj,uN]
      · exact hW.elim
    · rename_i sz rows k n hk he hf
      rw[he] at hx
      rw[hf] at hi
      obtain ⟨⟨a9,dU,h0,h1⟩,hK⟩:=hW
      have ht:=ry hk
      rcases hx.wF.inv with ⟨ad,cap,rfl,bd⟩ | ⟨b,o,cap,f,bd,g1,g2,g3,g4,g5⟩
      · simp at h1;omega
      · have hn:n.toNat<rows.length:=by omega
        refine dg h ha hd (.b7 (rows.getD n.toNat []) b (o+n.toNat * sz) (fun j=>f n.toNat j) g1 ?_ ?_) hK ?_
        · intro j y hj
          have:cellAt rows n.toNat j=some y:=by
            rw[aA] at hj
            simp[hn] at hj
            simp[cellAt,hn,hj]
          have:=g4 _ _ _ this
          simpa [uN] using this
        · intro j y hj
          have:cellAt rows n.toNat j=some y:=by
            rw[aA] at hj
            simp[hn] at hj
            simp[cellAt,hn,hj]
          exact g5 _ _ _ this
        · have hc:0≤n∧n<(rows.length:Int):=⟨h0,by omega⟩
          simp only[execOp,Sem.run_bind,Instr.indexAt,bd,hi.cM,asIntOf,Sem.run_pure,Result.andThen_ok,run_underlying ht,Sem.run_ite,hc,and_self,if_true,run_sizeOf dU,← a9,Addr.qm]
    · rename_i id r c k n hk he hf
      rw[he] at hx
      rw[hf] at hi
      cases ho:σ.aa[id]? with
      | none=>simp[ho] at hW
      | some ob =>
        have cz:ob≠.gone∧((ty P (ty P t).elem).kind≠99∧0≤n∧n<(ty P t).len)∧K (σ.put dst (.ptr id r (c+n.toNat * (ty P (ty P t).elem).size))):=by cases ob<;>simp[ho] at hW ⊢<;>exact hW
        obtain ⟨oK,⟨dU,h0,h1⟩,hK⟩:=cz
        have ht:=L0 hk
        have hc:0≤n∧n<((ty P t).len:Int):=⟨h0,h1⟩
        rcases hx.F9 with hg | ⟨b,cap,cells,h1,h2,rfl,bd⟩ | ⟨sz,b,o,cap,rows,h1,h2,bd⟩
        · rw[ho] at hg;simp at hg;exact absurd hg oK
        · refine dg h ha hd (.mu id _ b cap cells h1 h2) hK ?_
          simp only[execOp,Sem.run_bind,Instr.indexAt,bd,hi.cM,asIntOf,Sem.run_pure,Result.andThen_ok,run_underlying ht,Instr.sureAddr,Sem.run_ite,hc,and_self,if_true,run_sizeOf dU,Addr.qm]
        · refine dg h ha hd (.mY id r _ sz b o cap rows h1 h2) hK ?_
          simp only[execOp,Sem.run_bind,Instr.indexAt,bd,hi.cM,asIntOf,Sem.run_pure,Result.andThen_ok,run_underlying ht,Instr.sureAddr,Sem.run_ite,hc,and_self,if_true,run_sizeOf dU,Addr.qm]
          simp[uN]
    · exact hW.elim
  case slice t x lo hi mx =>
    simp only at hW
    obtain ⟨hk,dU,rfl,hW⟩:=hW
    have ht:=ry hk
    have hx:=E x
    have eQ:∀ (ad:Option Addr) (len cap l h:Nat) (lo hi:Option Value),(lo=none∧l=0∨∃ k,lo=some (.int k (l:Int)))→(hi=none∧h=len∨∃ k,hi=some (.int k (h:Int)))→l≤h→h≤cap →
        (ty P (ty P t).elem).kind≠99→(Instr.sliceAt t (.slice ad len cap) lo hi none).run P γ.w=.ok (.slice (if cap=l then ad else ad.map (·.add (l * (ty P (ty P t).elem).size))) (h - l) (cap - l)) γ.w:=by
      intro ad len cap l h lo hi gZ m4 h1 h2 dU
      have c1:(l:Int)≤h:=by omega
      have c2:(h:Int)≤cap:=by omega
      rcases gZ with ⟨rfl,rfl⟩ | ⟨k,rfl⟩<;>rcases m4 with ⟨rfl,rfl⟩ | ⟨k',rfl⟩ <;>
        simp[Instr.sliceAt,Instr.slice,Instr.sliceBounds,Instr.sliceBound,asIntOf,run_underlying ht,run_sizeOf dU,h1,h2]
    split at hW
    · rename_i id sz off len he
      rw[he] at hx
      split at hW
      · rename_i cO rows ho
        obtain ⟨rfl,a9,hW⟩:=hW
        obtain ⟨h0,cF,_⟩:=h.ez _ _ ho
        have key:∀ (l hh:Nat) (kD hi':Option Operand),(kD.map a.eval=none∧l=0∨∃ k,kD.map a.eval=some (.int k (l:Int)))→(hi'.map a.eval=none∧hh=len∨∃ k,hi'.map a.eval=some (.int k (hh:Int)))→l≤hh→hh≤len →
            K (σ.put dst (.ref id cO (off+l) (hh - l)))→wK ⟨dst,.slice t x kD hi' none,type,pos,after,guard⟩ σ γ a K ((execOp a.eval ⟨dst,.slice t x kD hi' none,type,pos,after,guard⟩).run P γ.w):=by
          intro l hh kD hi' gZ m4 h1 h2 hK
          rcases hx.Ga with hg | ⟨g1,g2,rfl,rfl,bd⟩ | ⟨rfl,b,xx,bo,fO,g1,g2,g3,bd⟩ | ⟨b,o,cap,cap',fO,g1,g2,g3,g4,g5,bd⟩
          · rw[ho] at hg;simp at hg
          · have:l=0:=by omega
            subst this
            have:hh=0:=by omega
            subst this
            refine dg (o:=⟨dst,.slice t x kD hi' none,type,pos,after,guard⟩) h ha hd (.lE id _ g1 g2) hK ?_
            have:=eQ none 0 0 0 0 _ _ gZ m4 (by omega) (by omega) dU
            simp only[execOp,Sem.run_bind,bd,nu,this,Result.andThen_ok,Sem.run_pure]
            simp
          · have:l=0:=by omega
            subst this
            have:hh=0:=by omega
            subst this
            refine dg (o:=⟨dst,.slice t x kD hi' none,type,pos,after,guard⟩) h ha hd (.lV id _ _ b xx bo fO g1 g2 (by omega)) hK ?_
            have:=eQ (some ⟨b,xx,none⟩) 0 0 0 0 _ _ gZ m4 (by omega) (by omega) dU
            simp only[execOp,Sem.run_bind,bd,nu,this,Result.andThen_ok,Sem.run_pure]
            simp
          · have hr:=eQ (some ⟨b,o+off * cO,none⟩) len cap' l hh _ _ gZ m4 h1 (by omega) dU
            by_cases hm:cap'=l
            · have e1:hh=l:=by omega
              subst e1
              rw[if_pos hm] at hr
              have e2:hh - hh=0:=by omega
              have e3:cap' - hh=0:=by omega
              rw[e2,e3] at hr
              rw[e2] at hK
              refine dg (o:=⟨dst,.slice t x kD hi' none,type,pos,after,guard⟩) h ha hd (.lV id _ _ b (o+off * cO) (o,cap) fO g1 g2 (by omega)) hK ?_
              simp only[execOp,Sem.run_bind,bd,nu,hr,Result.andThen_ok,Sem.run_pure]
            · rw[if_neg hm] at hr
              refine dg (o:=⟨dst,.slice t x kD hi' none,type,pos,after,guard⟩) h ha hd (.ref id _ (off+l) (hh - l) b o cap (cap' - l) fO g1 g2 (by omega) (by omega) (by omega)) hK ?_
              simp only[execOp,Sem.run_bind,bd,nu,hr,Result.andThen_ok,Sem.run_pure,gf,Addr.qm,← a9]
              simp[fj,uN]
        split at hW
        · rename_i e1 e2
          have gZ:lo=none:=by cases lo<;>simp at e1 ⊢
          have m4:hi=none:=by cases hi<;>simp at e2 ⊢
          subst gZ;subst m4
          exact key 0 len none none (.inl ⟨rfl,rfl⟩) (.inl ⟨rfl,rfl⟩) (by omega) (aG _) (by simpa using hW)
        · rename_i k l e1 e2
          have m4:hi=none:=by cases hi<;>simp at e2 ⊢
          subst m4
          obtain ⟨lo,rfl,f1⟩ :∃y,lo=some y∧ev σ y=.lit (.int k l):=by cases lo<;>simp at e1 ⊢;exact e1
          obtain ⟨⟨c1,c2,_⟩,hK⟩:=hW
          have hl:=E lo
          rw[f1] at hl
          refine key l.toNat len (some lo) none (.inr ⟨k,?_⟩) (.inl ⟨rfl,rfl⟩) (by omega) (aG _) hK
          simp[hl.cM];omega
        · rename_i k hh e1 e2
          have gZ:lo=none:=by cases lo<;>simp at e1 ⊢
          subst gZ
          obtain ⟨hi,rfl,f2⟩ :∃y,hi=some y∧ev σ y=.lit (.int k hh):=by cases hi<;>simp at e2 ⊢;exact e2
          obtain ⟨⟨c1,c2⟩,hK⟩:=hW
          have hl:=E hi
          rw[f2] at hl
          refine key 0 hh.toNat none (some hi) (.inl ⟨rfl,rfl⟩) (.inr ⟨k,?_⟩) (by omega) (by omega) (by simpa using hK)
          simp[hl.cM];omega
        · rename_i k l k' hh e1 e2
          obtain ⟨lo,rfl,f1⟩ :∃y,lo=some y∧ev σ y=.lit (.int k l):=by cases lo<;>simp at e1 ⊢;exact e1
          obtain ⟨hi,rfl,f2⟩ :∃y,hi=some y∧ev σ y=.lit (.int k' hh):=by cases hi<;>simp at e2 ⊢;exact e2
          obtain ⟨⟨c1,c2,c3⟩,hK⟩:=hW
          have hl:=E lo
          have Ah:=E hi
          rw[f1] at hl
          rw[f2] at Ah
          refine key l.toNat hh.toNat (some lo) (some hi) (.inr ⟨k,?_⟩) (.inr ⟨k',?_⟩) (by omega) (by omega) hK
          · simp[hl.cM];omega
          · simp[Ah.cM];omega
        · exact hW.elim
      · exact hW.elim
    · rename_i sz rows he
      rw[he] at hx
      obtain ⟨a9,hW⟩:=hW
      have key:∀ (l hh:Nat) (kD hi':Option Operand),(kD.map a.eval=none∧l=0∨∃ k,kD.map a.eval=some (.int k (l:Int)))→(hi'.map a.eval=none∧hh=rows.length∨∃ k,hi'.map a.eval=some (.int k (hh:Int)))→l≤hh→hh≤rows.length →
          K (σ.put dst (.tree sz ((rows.drop l).take (hh - l))))→wK ⟨dst,.slice t x kD hi' none,type,pos,after,guard⟩ σ γ a K ((execOp a.eval ⟨dst,.slice t x kD hi' none,type,pos,after,guard⟩).run P γ.w):=by
        intro l hh kD hi' gZ m4 h1 h2 hK
        rcases hx.wF.inv with ⟨ad,cap,rfl,bd⟩ | ⟨b,o,cap,f,bd,g1,g2,g3,g4,g5⟩
        · have e1:hh=0:=by simpa using h2
          subst e1
          have e2:l=0:=by omega
          subst e2
          have hr:=eQ ad 0 cap 0 0 _ _ gZ m4 (by omega) (by omega) dU
          refine dg (o:=⟨dst,.slice t x kD hi' none,type,pos,after,guard⟩) h ha hd (v:=.tree sz (([].drop 0).take (0 - 0))) (cv:=.slice (if cap=0 then ad else ad.map (·.add (0 * (ty P (ty P t).elem).size))) (0 - 0) (cap - 0)) (.bW _ _ (.nil sz (cap - 0) _)) hK ?_
          simp only[execOp,Sem.run_bind,bd,nu,hr,Result.andThen_ok,Sem.run_pure]
        · have hr:=eQ (some ⟨b,o,none⟩) rows.length cap l hh _ _ gZ m4 h1 (by omega) dU
          by_cases oL:hh - l=0
          · have e:(rows.drop l).take (hh - l)=[]:=by rw[oL];simp
            rw[e] at hK
            rw[oL] at hr
            refine dg (o:=⟨dst,.slice t x kD hi' none,type,pos,after,guard⟩) h ha hd (v:=.tree sz []) (cv:=.slice (if cap=l then some ⟨b,o,none⟩ else (some (⟨b,o,none⟩:Addr)).map (·.add (l * (ty P (ty P t).elem).size))) 0 (cap - l)) (.bW _ _ (.nil sz (cap - l) _)) hK ?_
            simp only[execOp,Sem.run_bind,bd,nu,hr,Result.andThen_ok,Sem.run_pure]
          · have dm:¬ cap=l:=by omega
            rw[if_neg dm] at hr
            have Yt:rows≠[]:=by intro e;subst e;simp at h2;omega
            refine dg (o:=⟨dst,.slice t x kD hi' none,type,pos,after,guard⟩) h ha hd (.bW _ _ (gF.sub g1 g2 g4 g5 l (hh - l) (cap':=cap - l) (by omega) g3 (by omega))) hK ?_
            simp only[execOp,Sem.run_bind,bd,nu,hr,Result.andThen_ok,Sem.run_pure,gf,Addr.qm,← a9 Yt]
      split at hW
      · rename_i e1 e2
        have gZ:lo=none:=by cases lo<;>simp at e1 ⊢
        have m4:hi=none:=by cases hi<;>simp at e2 ⊢
        subst gZ;subst m4
        exact key 0 rows.length none none (.inl ⟨rfl,rfl⟩) (.inl ⟨rfl,rfl⟩) (by omega) (aG _) (by simpa using hW)
      · rename_i k l e1 e2
        have m4:hi=none:=by cases hi<;>simp at e2 ⊢
        subst m4
        obtain ⟨lo,rfl,f1⟩ :∃y,lo=some y∧ev σ y=.lit (.int k l):=by cases lo<;>simp at e1 ⊢;exact e1
        obtain ⟨⟨c1,c2⟩,hK⟩:=hW
        have hl:=E lo
        rw[f1] at hl
        refine key l.toNat rows.length (some lo) none (.inr ⟨k,?_⟩) (.inl ⟨rfl,rfl⟩) (by omega) (aG _) ?_
        · simp[hl.cM];omega
        · have e:(rows.drop l.toNat).take (rows.length - l.toNat)=rows.drop l.toNat:=List.take_of_length_le (by simp)
          rw[e];exact hK
      · rename_i k hh e1 e2
        have gZ:lo=none:=by cases lo<;>simp at e1 ⊢
        subst gZ
        obtain ⟨hi,rfl,f2⟩ :∃y,hi=some y∧ev σ y=.lit (.int k hh):=by cases hi<;>simp at e2 ⊢;exact e2
        obtain ⟨⟨c1,c2⟩,hK⟩:=hW
        have hl:=E hi
        rw[f2] at hl
        refine key 0 hh.toNat none (some hi) (.inl ⟨rfl,rfl⟩) (.inr ⟨k,?_⟩) (by omega) (by omega) (by simpa using hK)
        simp[hl.cM];omega
      · rename_i k l k' hh e1 e2
        obtain ⟨lo,rfl,f1⟩ :∃y,lo=some y∧ev σ y=.lit (.int k l):=by cases lo<;>simp at e1 ⊢;exact e1
        obtain ⟨hi,rfl,f2⟩ :∃y,hi=some y∧ev σ y=.lit (.int k' hh):=by cases hi<;>simp at e2 ⊢;exact e2
        obtain ⟨⟨c1,c2,c3⟩,hK⟩:=hW
        have hl:=E lo
        have Ah:=E hi
        rw[f1] at hl
        rw[f2] at Ah
        refine key l.toNat hh.toNat (some lo) (some hi) (.inr ⟨k,?_⟩) (.inr ⟨k',?_⟩) (by omega) (by omega) ?_
        · simp[hl.cM];omega
        · simp[Ah.cM];omega
        · rw[← List.drop_take];exact hK
      · exact hW.elim
    · exact hW.elim
  case call c =>
    obtain ⟨callee,args,argTypes⟩:=c
    have mr:∀ l,args.toList=l→args=l.toArray:=by intro l h;rw[← h]
    have CY:∀ l,argTypes.toList=l→argTypes=l.toArray:=by intro l h;rw[← h]
    cases callee with
    | value f=>exact hW.elim
    | invoke r m=>exact hW.elim
    | builtin b =>
      cases b
      case len =>
        simp only at hW
        split at hW
        · rename_i x t df jR
          have ea:=mr _ df
          have et:=CY _ jR
          subst ea
          subst et
          have hx:=E x
          have eQ:(ty P t).kind=1→∀ ad n c,a.eval x=.slice ad n c→(execOp a.eval ⟨dst,.call ⟨.builtin .len,[x].toArray,[t].toArray⟩,type,pos,after,guard⟩).run P γ.w=.ok (.value (.int .i64 (n:Int))) γ.w:=by
            intro hk ad n c hc
            have ht:=ry hk
            simp[execOp,resolve,invoke,builtin,Builtin.len_,run_underlying ht,hc,goInt]
          split at hW
          · rename_i id sz off len he
            rw[he] at hx
            obtain ⟨hk,hW⟩:=hW
            split at hW
            · rename_i cO rows ho
              rcases hx.Ga with hg | ⟨_,_,_,rfl,bd⟩ | ⟨rfl,_,_,_,_,_,_,_,bd⟩ | ⟨b,o,cap,cap',fO,g1,g2,g3,g4,g5,bd⟩
              · rw[ho] at hg;simp at hg
              · exact dg h ha hd (.lit _) hW.2 (eQ hk _ _ _ bd)
              · exact dg h ha hd (.lit _) hW.2 (eQ hk _ _ _ bd)
              · exact dg h ha hd (.lit _) hW.2 (eQ hk _ _ _ bd)
            · exact hW.elim
          · rename_i sz rows he
            rw[he] at hx
            rcases hx.wF.inv with ⟨ad,cap,rfl,bd⟩ | ⟨b,o,cap,f,bd,_⟩
            · exact dg h ha hd (.lit _) hW.2 (eQ hW.1 _ _ _ bd)
            · exact dg h ha hd (.lit _) hW.2 (eQ hW.1 _ _ _ bd)
          · rename_i he
            rw[he] at hx
            exact dg h ha hd (.lit _) hW.2 (eQ hW.1 _ _ _ hx.cM)
          · rename_i id he
            obtain ⟨hk,hW⟩:=hW
            split at hW
            · rename_i ag L ho
              obtain ⟨kt,ht⟩:=Gf hk
              rw[he] at hx
              obtain ⟨_,_,b,f,hb,bd,jJ,_⟩:=z9 h hx (id:=id) (ag:=ag) (L:=L) (by simp[kZ,ho])
              refine dg h ha hd (.lit _) hW ?_
              simp[execOp,resolve,invoke,builtin,Builtin.len_,run_underlying ht,bd,goInt,MapKept.run_getObj_map jJ,fS,wL]
            · exact hW.elim
          · exact hW.elim
        · exact hW.elim
      case append =>
        simp only at hW
        split at hW
        · rename_i s x t t' df jR
          have ea:=mr _ df
          have et:=CY _ jR
          subst ea
          subst et
          split at hW
          · rename_i z pre σ1 sz src hk hz z7 rm
            obtain ⟨⟨rfl,dU,a9,h0,ki,hlen,Af,lX⟩,hK⟩:=hW
            have Yu:py σ sz (ev σ s)=some (pre,σ1):=by rw[a9];exact z7
            obtain ⟨nO,γ1,h1,h2,h3,h4,h5⟩:=Yv (P:=P) (oty:=type) h hk dU hz a9 h0 ki (E s) (E x) Yu rm hlen Af lX
            refine yf (γ1:=γ1) h4 h3 (by rw[h2];exact ha) hd h5 hK ?_
            simp[execOp,resolve,invoke,builtin,h1]
          · exact hW.elim
        · exact hW.elim
      case min =>
        simp only at hW
        split at hW
        · rename_i x y df
          have ea:=mr _ df
          subst ea
          have hx:=E x
          have hy:=E y
          split at hW
          · rename_i k p k' q he hf
            rw[he] at hx
            rw[hf] at hy
            obtain ⟨rfl,hK⟩:=hW
            refine dg h ha hd (.lit _) hK ?_
            have e:(if q<p then q else p)=min p q:=by simp only[Int.min_def];split<;>split<;>omega
            simp[execOp,resolve,invoke,builtin,Builtin.min_,Builtin.min2,hx.cM,hy.cM,e]
          · exact hW.elim
        · exact hW.elim
      case max =>
        simp only at hW
        split at hW
        · rename_i x y df
          have ea:=mr _ df
          subst ea
          have hx:=E x
          have hy:=E y
          split at hW
          · rename_i k p k' q he hf
            rw[he] at hx
            rw[hf] at hy
            obtain ⟨rfl,hK⟩:=hW
            refine dg h ha hd (.lit _) hK ?_
            have e:(if q > p then q else p)=max p q:=by simp only[Int.max_def];split<;>split<;>omega
            simp[execOp,resolve,invoke,builtin,Builtin.max_,Builtin.max2,hx.cM,hy.cM,e]
          · exact hW.elim
        · exact hW.elim
      case copy =>
        simp only at hW
        split at hW
        · rename_i s x t t' df jR
          have ea:=mr _ df
          have et:=CY _ jR
          subst ea
          subst et
          have hs:=E s
          split at hW
          · rename_i id sz off len cO src he rm
            rw[he] at hs
            split at hW
            · rename_i kf rows ho
              obtain ⟨⟨hk,dU,rfl,rfl,a9,h0,lX⟩,hK⟩:=hW
              obtain ⟨w',h1,h2,h3⟩:=Yw (P:=P) (t':=t') (oty:=type) h hk dU a9 h0 hs (E x) ho rm lX
              refine yf (γ1:={ γ with w:=w' }) h3 h2 ha hd (.lit _) hK ?_
              simp[execOp,resolve,invoke,builtin,h1]
            · exact hW.elim
          · exact hW.elim
        · exact hW.elim
      case clear =>
        simp only at hW
        split at hW
        · rename_i s t df jR
          have ea:=mr _ df
          have et:=CY _ jR
          subst ea
          subst et
          have hs:=E s
          split at hW
          · rename_i id sz off len z he hz
            rw[he] at hs
            split at hW
            · rename_i cO rows ho
              obtain ⟨⟨hk,dU,rfl,ki,h0,CZ⟩,hK⟩:=hW
              obtain ⟨w',h1,h2,h3⟩:=Yx (P:=P) (oty:=type) h hk dU ki h0 hz CZ hs ho
              refine yf (γ1:={ γ with w:=w' }) h3 h2 ha hd (.lit _) hK ?_
              simp[execOp,resolve,invoke,builtin,h1]
            · exact hW.elim
          · exact hW.elim
        · exact hW.elim
      all_goals exact hW.elim
  case convert s d x =>
    simp only at hW
    have hx:=E x
    split at hW
    · rename_i k k' n rh he
      rw[he] at hx
      obtain ⟨hu,hK⟩:=hW
      obtain ⟨u,hu⟩:=Option.isSome_iff_exists.1 hu
      refine dg h ha hd (.lit _) hK ?_
      simp[execOp,convert,run_underlying hu,run_underlying rh,hx.cM,Conv.intToInt]
    · exact hW.elim
  all_goals exact hW.elim
end Go.Am

