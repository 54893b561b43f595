import Derived.Test.YtafhoboejkcmiaaGreatX00
set_option linter.unusedVariables false
set_option linter.unusedSimpArgs false
set_option linter.unnecessarySimpa false
set_option linter.unusedSectionVars false
set_option maxHeartbeats 64000000
set_option maxRecDepth 20000
namespace Go.Am
variable {P:Program}
def OpOut (o:Oper) (σ:St) (γ:Cx) (a:Act) (K:St→Prop) (r:Result Next):Prop :=
  ∃ n x w' σ' γ',r=.ok n w'∧(n=.value x∨(n=.skip∧x=Go.undef))∧K σ'∧Sim σ' γ'∧Fr σ.objs γ σ'.objs γ'∧γ'.w=w'∧γ'.tmps=(a.put o.dst x).tmps
theorem RelV.lit {os:List Ob} {w:World} {Z:Nat→Prop} {blk:Blk} (v:Value):RelV os w Z blk (.lit v) v:=.frz _ _ (.lit v)
theorem RelV.lit_inv {os:List Ob} {w:World} {Z:Nat→Prop} {blk:Blk} {v cv:Value} (h:RelV os w Z blk (.lit v) cv):cv=v:=by
  cases h with
  | frz _ _ h=>cases h;rfl
theorem RelV.tree_inv {os:List Ob} {w:World} {Z:Nat→Prop} {blk:Blk} {sz:Nat} {rows:List (List AV)} {cv:Value} (h:RelV os w Z blk (.tree sz rows) cv):TreeR w Z (.tree sz rows) cv:=by
  cases h with
  | frz _ _ h=>exact h
theorem RelV.litOf {os:List Ob} {w:World} {Z:Nat→Prop} {blk:Blk} (v:Value):RelV os w Z blk (litOf v) v:=by
  unfold Am.litOf
  split
  · rename_i cs
    refine .agg _ _ (by simp) (fun j x hx=>?_)
    simp only[List.getElem?_map,Array.getElem?_toList] at hx
    cases hj:cs[j]? with
    | none=>simp[hj] at hx
    | some y =>
      simp[hj] at hx
      subst hx
      simp[hj]
      exact .lit y
  · exact .lit v
theorem ev_rel {σ:St} {γ:Cx} (h:Sim σ γ) {a:Act} (ha:γ.tmps=a.tmps) (x:Operand):RelV σ.objs γ.w γ.Z γ.blk (ev σ x) (a.eval x):=by
  cases x with
  | tmp t=>have:=h.slots t;rw[ha] at this;exact this
  | const v=>exact .litOf v
  | global g=>exact .undef _
  | func f=>exact .fn f [] #[] rfl (fun j x hx=>by simp at hx)
theorem scal_one {os:List Ob} {w:World} {Z:Nat→Prop} {blk:Blk} {v:AV} {cv:Value} (h:RelV os w Z blk v cv) (hs:scal v=true):cv.oneCell'=true:=by
  cases h with
  | undef cv=>simp[scal] at hs
  | frz v cv h=>cases h<;>first|rfl|(simpa [scal] using hs)
  | taddr=>rfl
  | deadRef id sz off len cv h h1=>exact h1
  | deadPtr id r c cv h h1=>exact h1
  | ref=>rfl
  | refNil=>rfl
  | refEnd=>rfl
  | ptrV=>rfl
  | ptrA=>rfl
  | agg=>simp[scal] at hs
  | tup=>simp[scal] at hs
  | fn=>rfl
  | ifc=>rfl
  | mref=>rfl
  | deadM id cv h h1=>exact h1
theorem put_sim {σ:St} {γ:Cx} (h:Sim σ γ) {a:Act} (ha:γ.tmps=a.tmps) {dst:Option Tmp} (hd:∀ d,dst=some d→d<a.tmps.size) {v:AV} {cv:Value}
    (hv:RelV σ.objs γ.w γ.Z γ.blk v cv):Sim (σ.put dst v) { γ with tmps:=(a.put dst cv).tmps }:=by
  cases dst with
  | none =>
    have:({ γ with tmps:=(a.put none cv).tmps }:Cx)=γ:=by cases γ;simp_all [Act.put]
    rw[this]
    exact h
  | some d =>
    have:=h.put d (by rw[ha];exact hd d rfl) hv
    rw[ha] at this
    exact this
theorem objs_put (σ:St) (dst:Option Tmp) (v:AV):(σ.put dst v).objs=σ.objs:=by cases dst<;>rfl
theorem out_put {o:Oper} {σ:St} {γ:Cx} {a:Act} {K:St→Prop} (h:Sim σ γ) (ha:γ.tmps=a.tmps) (hd:∀ d,o.dst=some d→d<a.tmps.size) {v:AV} {cv:Value}
    (hv:RelV σ.objs γ.w γ.Z γ.blk v cv) (hK:K (σ.put o.dst v)) {r:Result Next} (hr:r=.ok (.value cv) γ.w):OpOut o σ γ a K r :=
  ⟨.value cv,cv,γ.w,σ.put o.dst v,{ γ with tmps:=(a.put o.dst cv).tmps },hr,.inl rfl,hK,put_sim h ha hd hv,by rw[objs_put];exact (Fr.refl _ _).put _,rfl,rfl⟩
theorem out_put' {o:Oper} {σ σ1:St} {γ γ1:Cx} {a:Act} {K:St→Prop} (hf:Fr σ.objs γ σ1.objs γ1) (h:Sim σ1 γ1) (ha:γ1.tmps=a.tmps) (hd:∀ d,o.dst=some d→d<a.tmps.size) {v:AV} {cv:Value}
    (hv:RelV σ1.objs γ1.w γ1.Z γ1.blk v cv) (hK:K (σ1.put o.dst v)) {r:Result Next} (hr:r=.ok (.value cv) γ1.w):OpOut o σ γ a K r :=
  ⟨.value cv,cv,γ1.w,σ1.put o.dst v,{ γ1 with tmps:=(a.put o.dst cv).tmps },hr,.inl rfl,hK,put_sim h ha hd hv,by rw[objs_put];exact hf.put _,rfl,rfl⟩
theorem out_skip {o:Oper} {σ σ1:St} {γ γ1:Cx} {a:Act} {K:St→Prop} (hf:Fr σ.objs γ σ1.objs γ1) (h:Sim σ1 γ1) (ha:γ1.tmps=a.tmps) (hd:∀ d,o.dst=some d→d<a.tmps.size)
    (hK:K (σ1.put o.dst .undef)) {r:Result Next} (hr:r=.ok .skip γ1.w):OpOut o σ γ a K r :=
  ⟨.skip,Go.undef,γ1.w,σ1.put o.dst .undef,{ γ1 with tmps:=(a.put o.dst Go.undef).tmps },hr,.inr ⟨rfl,rfl⟩,hK,put_sim h ha hd (.undef _),by rw[objs_put];exact hf.put _,rfl,rfl⟩
theorem wrap_in {k:IntKind} {n:Int} (h:k.min≤n∧n≤k.max):k.wrap n=n:=by
  cases k<;>simp[IntKind.min,IntKind.max,IntKind.signed,IntKind.bits] at h<;>simp[IntKind.wrap,IntKind.signed,IntKind.bits]<;>omega
theorem intW_sound {op:BinOp} {k:IntKind} {x y:Int} {K:Value→Prop} (h:intW op k x y K) (t:TypeId) (w:World) :
    ∃ v,(binOp op t (.int k x) (.int k y)).run P w=.ok v w∧K v:=by
  cases op<;>simp only[intW] at h
  case add=>exact⟨_,by simp[binOp,Op.intArith,wrap_in h.1],h.2⟩
  case sub=>exact⟨_,by simp[binOp,Op.intArith,wrap_in h.1],h.2⟩
  case mul=>exact⟨_,by simp[binOp,Op.intArith,wrap_in h.1],h.2⟩
  case quo =>
    refine⟨_,?_,h.2⟩
    obtain ⟨h0,hb,hm⟩:=h.1
    have hq:x.tdiv y=x / y:=Int.tdiv_eq_ediv_of_nonneg h0
    have hle:x / y≤x:=Int.ediv_le_self _ h0
    have hge:0≤x / y:=Int.ediv_nonneg h0 (by omega)
    have hw:k.wrap (x / y)=x / y:=wrap_in ⟨by cases k<;>simp[IntKind.min,IntKind.signed,IntKind.bits]<;>omega,by omega⟩
    have hne:¬ y=0:=by omega
    simp[binOp,Op.intDiv,hne,hq,hw]
  case rem=>exact⟨_,by simp[binOp,Op.intDiv,h.1],h.2⟩
  case and =>
    exact⟨_,by simp[binOp,Op.intBits,andK],h⟩
  case shr =>
    refine⟨_,?_,h.2⟩
    obtain ⟨h0,h1⟩:=h.1
    have:¬ y<0:=by omega
    have e:(2:Int) ^ y.toNat=((2 ^ y.toNat:Nat):Int):=by simp
    simp[binOp,Op.shift,this,Nat.min_eq_left h1]
    exact Int.fdiv_eq_ediv_of_nonneg _ (by rw[e];exact Int.natCast_nonneg _)
  case eql=>exact⟨_,by simp[binOp,Op.intCmp],h⟩
  case neq=>exact⟨_,by simp[binOp,Op.intCmp],h⟩
  case lss=>exact⟨_,by simp[binOp,Op.intCmp],h⟩
  case leq=>exact⟨_,by simp[binOp,Op.intCmp],h⟩
  case gtr=>exact⟨_,by simp[binOp,Op.intCmp],h⟩
  case geq=>exact⟨_,by simp[binOp,Op.intCmp],h⟩
theorem intsOf_map:∀ {cs:List AV} {as:List Int},intsOf cs=some as→cs=as.map fun a=>.lit (.int .i64 a)
  | [],as,h=>by simp[intsOf] at h;subst h;rfl
  | c::cs,as,h=>by
    unfold intsOf at h
    split at h
    · rename_i e;simp at e
    · rename_i a r e
      simp only[List.cons.injEq] at e
      obtain ⟨rfl,rfl⟩:=e
      simp only[Option.map_eq_some_iff] at h
      obtain ⟨as',h,rfl⟩:=h
      rw[intsOf_map h];rfl
    · simp at h
theorem agg_ints {os:List Ob} {w:World} {Z:Nat→Prop} {blk:Blk} {cs:List AV} {as:List Int} {cv:Value} (h:RelV os w Z blk (.agg cs) cv) (hi:intsOf cs=some as):cv=.agg (as.map (Value.int .i64)).toArray:=by
  have:=intsOf_map hi
  subst this
  cases h with
  | frz _ _ h=>cases h
  | agg _ cvs hs h =>
    congr 1
    refine Array.ext (by simpa using hs) (fun j h1 h2=>?_)
    have hj:j<as.length:=by simpa using h2
    have:=(h j (.lit (.int .i64 as[j])) (by simp[hj])).lit_inv
    rw[Array.getD_eq_getD_getElem?,Array.getElem?_eq_getElem h1] at this
    simpa using this
end Go.Am
namespace Go.Am
variable {P:Program}
theorem run_isAgg {t:TypeId} (h:(ty P t).kind≠99) (w:World):(isAgg t).run P w=.ok (ty P t).isAgg w:=by
  obtain ⟨i,d,hi,hd,_⟩:=ty_info h
  simp only[isAgg,Sem.run_bind,run_underlying hd,Result.andThen_ok]
  have:ty P t=ty P t:=rfl
  cases d<;>simp[ty,hi,hd,Ty.isAgg]
theorem run_sizeOf {t:TypeId} (h:(ty P t).kind≠99) (w:World):(sizeOf t).run P w=.ok (ty P t).size w:=by
  obtain ⟨i,d,hi,hd,hs,_⟩:=ty_info h
  simp[sizeOf,typeInfo,hi,hs]
theorem run_zero {t:TypeId} {z:List Value} (h:(ty P t).kind≠99) (hz:(ty P t).zero=some z) (w:World) :∃v,(zeroValue t).run P w=.ok v w∧v.cells=z.toArray:=by
  obtain ⟨i,d,hi,hd,_,_,h3⟩:=ty_info h
  rw[h3] at hz
  cases hv:i.zero with
  | none=>simp[hv] at hz
  | some v =>
    simp[hv] at hz
    refine⟨v,by simp[zeroValue,typeInfo,hi,hv],?_⟩
    rw[← hz]
theorem ptr_row {σ:St} {γ:Cx} (h:Sim σ γ) {id r c:Nat} {cv:Value} {row:List AV} (hv:RelV σ.objs γ.w γ.Z γ.blk (.ptr id r c) cv) (hrow:rowOf σ id r=some row) :
    ∃ b base cap cur t o,cv=.pointer (some ⟨b,base+c,none⟩)∧γ.blk id=some (b,o,cap)∧γ.w.heap[b]?=some (.cells cur t (0,0))∧base+row.length≤cur.size ∧
      (∀ j v,row[j]?=some v→RelV σ.objs γ.w γ.Z γ.blk v (cur.getD (base+j) Go.undef))∧Live σ.objs id ∧
      (∀ row' cur',row'.length=row.length→cur'.size=cur.size→(∀ j v,row'[j]?=some v→RelV σ.objs γ.w γ.Z γ.blk v (cur'.getD (base+j) Go.undef))→(∀ k,(k<base∨base+row.length≤k)→cur'.getD k Go.undef=cur.getD k Go.undef) →
        ∃ ob ob',σ.objs[id]?=some ob∧ob≠.gone∧ob.like ob'∧(setRowOf σ id r row') = { σ with objs:=σ.objs.set id ob' }∧ObNew σ.objs γ.w γ.Z γ.blk o cap cur' ob'):=by
  unfold rowOf at hrow
  cases ho:σ.objs[id]? with
  | none=>simp[ho] at hrow
  | some ob =>
    have hob:=h.obs id ob ho
    cases ob with
    | gone=>simp[ho] at hrow
    | mp ag L=>simp[ho] at hrow
    | var cells =>
      simp only[ho] at hrow
      split at hrow
      · rename_i hr0
        subst hr0
        simp at hrow
        subst hrow
        obtain ⟨b,cap,cur,t,h1,h2,h3,h4⟩:=hob
        have hcv:cv=.pointer (some ⟨b,c,none⟩):=by
          cases hv with
          | frz _ _ h=>cases h
          | deadPtr _ _ _ _ h=>rw[ho] at h;simp at h
          | ptrV _ _ b' cap' cells' h hb=>rw[h1] at hb;simp at hb;simp[hb.1]
          | ptrA _ _ _ sz b' o' cap' rows h hb=>rw[ho] at h;simp at h
        refine⟨b,0,cap,cur,t,0,by simpa using hcv,h1,h2,by omega,fun j v hj=>by simpa using h4 j v hj,⟨_,ho,by simp⟩,?_⟩
        intro row' cur' hl hs hrel _
        refine⟨.var cells,.var row',rfl,by simp,by simp[Ob.like,hl],by simp[setRowOf,ho],rfl,by omega,fun c v hc=>by simpa using hrel c v hc⟩
      · simp at hrow
    | arr sz rows =>
      simp only[ho] at hrow
      obtain ⟨hsz,hrl,hob⟩:=hob
      have hrlen:row.length=sz:=hrl row (List.mem_of_getElem? hrow)
      have hrlt:r<rows.length:=(List.getElem?_eq_some_iff.1 hrow).1
      rcases hob with ⟨_,he⟩ | ⟨b,o,cap,cur,t,h1,h2,h3,h4,h5,h6⟩
      · subst he;simp at hrow
      · have hcv:cv=.pointer (some ⟨b,o+(r * sz+c),none⟩):=by
          cases hv with
          | frz _ _ h=>cases h
          | deadPtr _ _ _ _ h=>rw[ho] at h;simp at h
          | ptrV _ _ b' cap' cells' h hb=>rw[ho] at h;simp at h
          | ptrA _ _ _ sz' b' o' cap' rows' h hb=>rw[ho] at h;simp at h;rw[h1] at hb;simp at hb;simp[hb.1,hb.2.1,h.1]
        have hmul:r * sz+sz≤cap * sz:=by
          have:(r+1) * sz≤cap * sz:=Nat.mul_le_mul_right _ (by omega)
          rw[Nat.add_mul] at this;omega
        refine⟨b,o+r * sz,cap,cur,t,o,by rw[hcv];simp[Nat.add_assoc],h1,h2,by omega,?_,⟨_,ho,by simp⟩,?_⟩
        · intro j v hj
          have:=h6 r j v (by simp[cellAt,hrow,hj])
          simpa [Nat.add_assoc] using this
        · intro row' cur' hl hs hrel hout
          refine⟨.arr sz rows,.arr sz (rows.set r row'),rfl,by simp,by simp[Ob.like],by simp[setRowOf,ho],hsz,?_,by omega,by simp[h4],h5,?_⟩
          · intro x hx
            rcases List.mem_or_eq_of_mem_set hx with hx | rfl
            · exact hrl x hx
            · omega
          · intro r' c' v hc
            by_cases hrr:r=r'
            · subst hrr
              simp only[cellAt,List.getElem?_set,if_true,hrlt] at hc
              simp at hc
              have:=hrel c' v hc
              simpa [Nat.add_assoc] using this
            · simp only[cellAt,List.getElem?_set,if_neg hrr] at hc
              have hold:=h6 r' c' v hc
              have hc':c'<sz:=by
                simp only[Option.bind_eq_some_iff] at hc
                obtain ⟨x,hx,hxc⟩:=hc
                have:=hrl x (List.mem_of_getElem? hx)
                have:=(List.getElem?_eq_some_iff.1 hxc).1
                omega
              rw[hout _ ?_]
              · exact hold
              · rcases Nat.lt_or_gt_of_ne hrr with hlt | hgt
                · right
                  have:(r+1) * sz≤r' * sz:=Nat.mul_le_mul_right _ (by omega)
                  rw[Nat.add_mul] at this;omega
                · left
                  have:(r'+1) * sz≤r * sz:=Nat.mul_le_mul_right _ (by omega)
                  rw[Nat.add_mul] at this;omega
theorem Addr.add_none (b o n:Nat):(⟨b,o,none⟩:Addr).add n=⟨b,o+n,none⟩:=by
  unfold Go.Addr.add;split<;>simp_all
theorem cell_getD {w:World} {b j:Nat} {cur:Array Value} {t:TypeId} {fr:Nat × Nat} (h:w.heap[b]?=some (.cells cur t fr)) (hj:j<cur.size):w.cell? ⟨b,j,none⟩=some (cur.getD j Go.undef):=by
  simp[World.cell?,h,hj,Array.getD_eq_getD_getElem?]
theorem run_loadVar_cells {w:World} {t:TypeId} (hk:(ty P t).kind≠99) (b o:Nat) (f:Nat→Value)
    (hc:∀ j,j<(if (ty P t).isAgg then (ty P t).size else 1)→w.cell? ⟨b,o+j,none⟩=some (f j)) :
    (loadVar t ⟨b,o,none⟩).run P w=.ok (if (ty P t).isAgg then .agg ((List.range (ty P t).size).map f).toArray else f 0) w:=by
  simp only[loadVar,Sem.run_bind,run_isAgg hk,Result.andThen_ok]
  by_cases ha:(ty P t).isAgg=true
  · simp only[ha,if_true,Sem.run_bind,run_sizeOf hk,Result.andThen_ok]
    rw[run_loadCells w ⟨b,o,none⟩ _ f (fun j hj=>by rw[Addr.add_none];exact hc j (by simpa [ha] using hj))]
    rfl
  · have hc0:=hc 0 (by simp[ha])
    simp only[Nat.add_zero] at hc0
    simp[ha,hc0]
end Go.Am
namespace Go.Am
variable {P:Program}
theorem setCells_length (cs:List AV):∀ (row:List AV) (c:Nat),(setCells row c cs).length=row.length:=by
  induction cs with
  | nil=>intro row c;rfl
  | cons v vs ih=>intro row c;simp[setCells,ih]
theorem setCells_get (cs:List AV):∀ (row:List AV) (c:Nat),c+cs.length≤row.length→∀ j,(setCells row c cs)[j]?=if c≤j∧j<c+cs.length then cs[j - c]? else row[j]?:=by
  induction cs with
  | nil=>intro row c _ j;simp[setCells];intro h1 h2;omega
  | cons v vs ih =>
    intro row c hl j
    simp only[List.length_cons] at hl
    simp only[setCells,List.length_cons]
    rw[ih (row.set c v) (c+1) (by simp;omega) j]
    by_cases h1:c+1≤j∧j<c+1+vs.length
    · rw[if_pos h1,if_pos (by omega)]
      have:j - c=(j - (c+1))+1:=by omega
      rw[this];simp
    · rw[if_neg h1]
      by_cases h2:j=c
      · subst h2
        rw[if_pos (by omega)]
        simp[show j<row.length by omega]
      · rw[if_neg (by omega),List.getElem?_set_ne (Ne.symm h2)]
theorem cells_rel {os:List Ob} {w:World} {Z:Nat→Prop} {blk:Blk} {v:AV} {cv:Value} (h:RelV os w Z blk v cv) (hs:(cellsOf v).all scal=true) :
    cv.cells.size=(cellsOf v).length∧(∀ j x,(cellsOf v)[j]?=some x→RelV os w Z blk x (cv.cells.getD j Go.undef))∧∀ c∈cv.cells,c.oneCell'=true:=by
  by_cases hag :∃cs,v=.agg cs
  · obtain ⟨cs,rfl⟩:=hag
    simp only[cellsOf] at hs ⊢
    cases h with
    | frz _ _ h=>cases h
    | agg _ cvs hsz hrel =>
      refine⟨hsz,hrel,?_⟩
      intro c hc
      simp only[Value.cells] at hc
      obtain ⟨j,hj,rfl⟩:=Array.mem_iff_getElem.1 hc
      have hx:cs[j]?=some cs[j]:=by simp[← hsz,hj]
      have:=hrel j _ hx
      have hg:cvs.getD j Go.undef=cvs[j]:=by simp[Array.getD_eq_getD_getElem?,hj]
      rw[hg] at this
      exact scal_one this (by rw[List.all_eq_true] at hs;exact hs _ (List.mem_of_getElem? hx))
  · have hc1:cellsOf v=[v]:=by
      unfold cellsOf;split
      · exact absurd ⟨_,rfl⟩ hag
      · rfl
    rw[hc1] at hs ⊢
    simp at hs
    have ho:=scal_one h hs
    have hcc:cv.cells = #[cv]:=by cases cv<;>first|rfl|simp[Value.oneCell'] at ho
    rw[hcc]
    refine⟨rfl,?_,by simp[ho]⟩
    intro j x hx
    cases j with
    | zero=>simp at hx;subst hx;simpa using h
    | succ j=>simp at hx
section
variable {o:Oper} {σ:St} {γ:Cx} {a:Act} {K:St→Prop}
theorem load_ptr (hs:Sim σ γ) {t:TypeId} (hk:(ty P t).kind≠99) {id r c:Nat} {cv:Value} (hv:RelV σ.objs γ.w γ.Z γ.blk (.ptr id r c) cv)
    {row:List AV} (hrow:rowOf σ id r=some row) {K:AV→Prop} (h:loadA (ty P t) row c K) :
    ∃ v cv',(Instr.loadAt t cv).run P γ.w=.ok cv' γ.w∧RelV σ.objs γ.w γ.Z γ.blk v cv'∧K v:=by
  obtain ⟨b,base,cap,cur,tt,o,rfl,hb,hheap,hsz,hrel,_,_⟩:=ptr_row hs hv hrow
  unfold loadA at h
  simp only[Instr.loadAt,Instr.sureAddr,Sem.run_bind,Sem.run_pure,Result.andThen_ok]
  by_cases hag:(ty P t).isAgg=true
  · rw[if_pos hag] at h
    refine⟨_,_,run_loadVar_cells hk b (base+c) (fun j=>cur.getD (base+c+j) Go.undef) ?_,?_,h.2⟩
    · intro j hj
      rw[if_pos hag] at hj
      exact cell_getD hheap (by omega)
    · rw[if_pos hag]
      refine .agg _ _ (by simp;omega) (fun j x hx=>?_)
      have hj:j<(ty P t).size:=by have:=(List.getElem?_eq_some_iff.1 hx).1;simp at this;omega
      rw[List.getElem?_take,if_pos hj,List.getElem?_drop] at hx
      have:=hrel _ _ hx
      simp[Array.getD_eq_getD_getElem?,hj]
      simpa [Nat.add_assoc,Array.getD_eq_getD_getElem?] using this
  · rw[if_neg hag] at h
    cases hc:row[c]? with
    | none=>simp[hc] at h
    | some v =>
      simp only[hc] at h
      have hcl:=(List.getElem?_eq_some_iff.1 hc).1
      refine⟨v,_,run_loadVar_cells hk b (base+c) (fun j=>cur.getD (base+c+j) Go.undef) ?_,?_,h⟩
      · intro j hj
        rw[if_neg hag] at hj
        exact cell_getD hheap (by omega)
      · rw[if_neg hag]
        exact hrel _ _ hc
theorem load_taddr (_hs:Sim σ γ) {t:TypeId} (hk:(ty P t).kind≠99) {cells:List AV} {cv:Value} (hv:RelV σ.objs γ.w γ.Z γ.blk (.taddr cells) cv)
    {K:AV→Prop} (h:loadA (ty P t) cells 0 K) :
    ∃ v cv',(Instr.loadAt t cv).run P γ.w=.ok cv' γ.w∧RelV σ.objs γ.w γ.Z γ.blk v cv'∧K v:=by
  cases hv with
  | frz _ _ h=>cases h
  | taddr _ b o f hz hc ht =>
  unfold loadA at h
  simp only[Instr.loadAt,Instr.sureAddr,Sem.run_bind,Sem.run_pure,Result.andThen_ok]
  by_cases hag:(ty P t).isAgg=true
  · rw[if_pos hag] at h
    have hlen:(ty P t).size≤cells.length:=by omega
    refine⟨_,_,run_loadVar_cells hk b o f ?_,?_,h.2⟩
    · intro j hj
      rw[if_pos hag] at hj
      exact hc j cells[j] (by simp)
    · rw[if_pos hag]
      refine .agg _ _ (by simp;omega) (fun j x hx=>?_)
      have hj:j<(ty P t).size:=by have:=(List.getElem?_eq_some_iff.1 hx).1;simp at this;omega
      rw[List.getElem?_take,if_pos hj,List.getElem?_drop] at hx
      simp at hx
      simp[Array.getD_eq_getD_getElem?,hj]
      exact .frz _ _ (ht j x hx)
  · rw[if_neg hag] at h
    cases hcc:cells[0]? with
    | none=>simp[hcc] at h
    | some v =>
      simp only[hcc] at h
      refine⟨v,_,run_loadVar_cells hk b o f ?_,?_,h⟩
      · intro j hj
        rw[if_neg hag] at hj
        have:j=0:=by omega
        subst this
        exact hc 0 v hcc
      · rw[if_neg hag]
        exact .frz _ _ (ht 0 v hcc)
theorem getD_splice (cur:Array Value) (p:Nat) (vs:List Value) (hp:p+vs.length≤cur.size) (k:Nat) :
    ((cur.toList.take p++vs++cur.toList.drop (p+vs.length)).toArray).getD k Go.undef=if p≤k∧k<p+vs.length then vs.getD (k - p) Go.undef else cur.getD k Go.undef:=by
  simp only[Array.getD_eq_getD_getElem?,List.getElem?_toArray,List.getD_eq_getElem?_getD]
  by_cases h1:k<p
  · rw[if_neg (by omega),List.append_assoc,List.getElem?_append_left (by simp;omega),List.getElem?_take,if_pos h1]
    simp
  · by_cases h2:k<p+vs.length
    · rw[if_pos (by omega),List.getElem?_append_left (by simp;omega),List.getElem?_append_right (by simp;omega)]
      simp;congr 3;omega
    · rw[if_neg (by omega),List.getElem?_append_right (by simp;omega)]
      simp;congr 3;omega
theorem setRow_size (w:World) (g:Nat) (cs:Array Value):(w.setRow g cs).heap.size=w.heap.size:=by simp[World.setRow]
theorem store_ptr (hs:Sim σ γ) {t:TypeId} (hk:(ty P t).kind≠99) {id r c:Nat} {cv xv:Value} (hv:RelV σ.objs γ.w γ.Z γ.blk (.ptr id r c) cv)
    {row:List AV} (hrow:rowOf σ id r=some row) {v:AV} (hx:RelV σ.objs γ.w γ.Z γ.blk v xv)
    (h:(cellsOf v).length=(ty P t).size∧c+(ty P t).size≤row.length∧(cellsOf v).all scal=true) :
    ∃ w',(Instr.storeAt t cv xv).run P γ.w=.ok () w'∧Sim (setRowOf σ id r (setCells row c (cellsOf v))) { γ with w:=w' }∧Fr σ.objs γ (setRowOf σ id r (setCells row c (cellsOf v))).objs { γ with w:=w' }:=by
  obtain ⟨b,base,cap,cur,tt,o,rfl,hb,hheap,hsz,hrel,hlv,hput⟩:=ptr_row hs hv hrow
  obtain ⟨h1,h2,h3⟩:=h
  obtain ⟨e1,e2,e3⟩:=cells_rel hx h3
  have hlen:xv.cells.toList.length=(ty P t).size:=by simp[e1,h1]
  have hrun:(Instr.storeAt t (.pointer (some ⟨b,base+c,none⟩)) xv).run P γ.w=.ok () (γ.w.setRow b (cur.toList.take (base+c)++xv.cells.toList++cur.toList.drop (base+c+xv.cells.toList.length)).toArray):=by
    have hst:=run_storeCells_at P b (base+c) tt xv.cells.toList 0 cur γ.w hheap (by rw[hlen];omega) (fun x hx=>e3 x (by simpa using hx))
    simp only[Nat.add_zero] at hst
    simp only[Instr.storeAt,Instr.sureAddr,Sem.run_bind,Sem.run_pure,Result.andThen_ok,storeVar,run_sizeOf hk]
    have:¬ (xv.cells.size≠(ty P t).size):=by rw[e1,h1];simp
    rw[if_neg this]
    simpa using hst
  obtain ⟨ob,ob',g1,g2,g3,g4,g5⟩:=hput (setCells row c (cellsOf v)) (cur.toList.take (base+c)++xv.cells.toList++cur.toList.drop (base+c+xv.cells.toList.length)).toArray
    (setCells_length _ _ _) (by simp[hlen];omega) (by
      intro j x hj
      rw[setCells_get _ _ _ (by rw[h1];exact h2)] at hj
      rw[getD_splice cur (base+c) xv.cells.toList (by rw[hlen];omega),hlen]
      by_cases hin:c≤j∧j<c+(cellsOf v).length
      · rw[if_pos hin] at hj
        rw[if_pos (by omega)]
        have:=e2 _ _ hj
        have e:base+j - (base+c)=j - c:=by omega
        rw[e]
        simpa [List.getD_eq_getElem?_getD,Array.getD_eq_getD_getElem?] using this
      · rw[if_neg hin] at hj
        rw[if_neg (by omega)]
        exact hrel j x hj) (by
      intro k hk'
      rw[getD_splice cur (base+c) xv.cells.toList (by rw[hlen];omega),hlen]
      rw[if_neg (by omega)])
  refine⟨_,hrun,?_,?_⟩
  · rw[g4]
    exact hs.write g1 g2 g3 hb (setRow_heap γ.w b cur _ tt _ hheap) (fun k hk=>setRow_other γ.w b k _ hk) (setRow_size _ _ _) g5
  · rw[g4]
    exact Fr.write ob' g1 g2 g3 hb (fun k hk=>setRow_other γ.w b k _ hk) (setRow_size _ _ _) rfl rfl rfl
end
end Go.Am
namespace Go.Am
variable {P:Program}
theorem Sim.pushNil {σ:St} {γ:Cx} (h:Sim σ γ) {sz:Nat} (hsz:0<sz) :
    Sim { σ with objs:=σ.objs++[.arr sz []] } { γ with blk:=updB γ.blk σ.objs.length none }:=by
  have hR:∀ v cv,RelV σ.objs γ.w γ.Z γ.blk v cv→RelV (σ.objs++[.arr sz []]) γ.w γ.Z (updB γ.blk σ.objs.length none) v cv:=fun v cv hv =>
    hv.mono (fun b hb=>⟨hb,rfl⟩) (fun i o ho=>by
      have hi:i<σ.objs.length:=(List.getElem?_eq_some_iff.1 ho).1
      have ho':(σ.objs++[.arr sz []])[i]?=some o:=by rw[List.getElem?_append_left hi];exact ho
      by_cases hgo:o=.gone
      · subst hgo;exact .inl ho'
      · exact .inr ⟨by simp[updB,Nat.ne_of_lt hi],o,ho',Ob.like_refl hgo⟩)
  have hlive:∀ i b,updB γ.blk σ.objs.length none i=some b→Live (σ.objs++[.arr sz []]) i→Live σ.objs i∧γ.blk i=some b:=by
    rintro i b hb ⟨o,ho,hgo⟩
    simp only[updB] at hb
    split at hb
    · simp at hb
    · rename_i hne
      have hi:i<σ.objs.length:=by have:=(List.getElem?_eq_some_iff.1 ho).1;simp at this;omega
      rw[List.getElem?_append_left hi] at ho
      exact⟨⟨o,ho,hgo⟩,hb⟩
  refine⟨fun k=>hR _ _ (h.slots k),?_,?_,?_,h.zlt⟩
  · intro i o ho
    rcases Nat.lt_or_ge i σ.objs.length with hi | hi
    · rw[List.getElem?_append_left hi] at ho
      exact (h.obs i o ho).mono hR (by simp[updB,Nat.ne_of_lt hi]) (fun _ _ _ _=>rfl)
    · have hi':i=σ.objs.length:=by have:=(List.getElem?_eq_some_iff.1 ho).1;simp at this;omega
      subst hi'
      simp at ho
      subst ho
      exact⟨hsz,by simp,.inl ⟨by simp[updB],rfl⟩⟩
  · intro i j b o c o' c' hi hj hbi hbj
    obtain ⟨hi1,hi2⟩:=hlive i _ hbi hi
    obtain ⟨hj1,hj2⟩:=hlive j _ hbj hj
    exact h.inj i j b o c o' c' hi1 hj1 hi2 hj2
  · rintro b ⟨i,o,c,hi,hb⟩
    obtain ⟨hi1,hi2⟩:=hlive i _ hb hi
    exact h.nz b ⟨i,o,c,hi1,hi2⟩
theorem Fr.pushNil (os:List Ob) (γ:Cx) (sz:Nat):Fr os γ (os++[.arr sz []]) { γ with blk:=updB γ.blk os.length none } where
  eos:=rfl
  tape:=rfl
  output:=rfl
  size:=Nat.le_refl _
  keep:=fun _ _ _=>rfl
  z0:=fun _ h=>h
  z1:=fun _ h=>.inl h
  own:=by
    rintro b ⟨i,o,c,⟨x,hx,hgx⟩,hb⟩
    simp only[updB] at hb
    split at hb
    · simp at hb
    · have hi:i<os.length:=by have:=(List.getElem?_eq_some_iff.1 hx).1;simp at this;omega
      rw[List.getElem?_append_left hi] at hx
      exact .inl ⟨i,o,c,⟨x,hx,hgx⟩,hb⟩
  len:=by simp
  old:=by
    rintro i hi ⟨x,hx,hgx⟩
    have hx0:=hx
    rw[List.getElem?_append_left hi] at hx
    exact⟨by simp[updB,Nat.ne_of_lt hi],x,x,hx,hx0,Ob.like_refl hgx⟩
theorem Sim.reown {σ:St} {γ:Cx} (h:Sim σ γ) {id:Nat} {ob ob':Ob} (ho:σ.objs[id]?=some ob) (hg:ob≠.gone) {b o cap o' cap':Nat} (hb:γ.blk id=some (b,o,cap))
    {w':World} {cur:Array Value} {t:TypeId} (hw:w'.heap[b]?=some (.cells cur t (0,0))) (hoth:∀ k,k≠b→w'.heap[k]?=γ.w.heap[k]?) (hsz:w'.heap.size=γ.w.heap.size)
    (hob:ObNew σ.objs γ.w γ.Z γ.blk o' cap' cur ob') :
    Sim { σ with objs:=σ.objs.set id .gone++[ob'] } { γ with w:=w',blk:=updB γ.blk σ.objs.length (some (b,o',cap')) }:=by
  have hid:id<σ.objs.length:=(List.getElem?_eq_some_iff.1 ho).1
  have hlv:Live σ.objs id:=⟨ob,ho,hg⟩
  have hR:∀ v cv,RelV σ.objs γ.w γ.Z γ.blk v cv→RelV (σ.objs.set id .gone++[ob']) w' γ.Z (updB γ.blk σ.objs.length (some (b,o',cap'))) v cv:=fun v cv hv =>
    hv.mono (fun z hz=>⟨hz,hoth z (fun e=>h.nz b ⟨id,o,cap,hlv,hb⟩ (e ▸ hz))⟩) (fun i x hx=>by
      have hi:i<σ.objs.length:=(List.getElem?_eq_some_iff.1 hx).1
      rw[List.getElem?_append_left (by simpa using hi),List.getElem?_set]
      by_cases hii:id=i
      · left;simp[hii,hi]
      · rw[if_neg hii]
        by_cases hgo:x=.gone
        · subst hgo;exact .inl hx
        · exact .inr ⟨by simp[updB,Nat.ne_of_lt hi],x,hx,Ob.like_refl hgo⟩)
  have hlive:∀ i,Live (σ.objs.set id .gone++[ob']) i→i=σ.objs.length∨(i<σ.objs.length∧i≠id∧Live σ.objs i):=by
    rintro i ⟨x,hx,hgx⟩
    rcases Nat.lt_or_ge i σ.objs.length with hi | hi
    · right
      rw[List.getElem?_append_left (by simpa using hi),List.getElem?_set] at hx
      split at hx
      · simp at hx;exact absurd hx.symm hgx
      · rename_i hne
        exact⟨hi,Ne.symm hne,x,hx,hgx⟩
    · left
      have:=(List.getElem?_eq_some_iff.1 hx).1
      simp at this;omega
  refine⟨fun k=>hR _ _ (h.slots k),?_,?_,?_,fun z hz=>by rw[hsz];exact h.zlt z hz⟩
  · intro i x hx
    rcases Nat.lt_or_ge i σ.objs.length with hi | hi
    · rw[List.getElem?_append_left (by simpa using hi),List.getElem?_set] at hx
      split at hx
      · simp at hx;subst hx;trivial
      · rename_i hne
        by_cases hgo:x=.gone
        · subst hgo;trivial
        · refine (h.obs i x hx).mono hR (by simp[updB,Nat.ne_of_lt hi]) (fun z y c hz=>hoth z (fun e=>hne ?_))
          subst e
          exact h.inj id i z o cap y c hlv ⟨x,hx,hgo⟩ hb hz
    · have hi':i=σ.objs.length:=by have:=(List.getElem?_eq_some_iff.1 hx).1;simp at this;omega
      subst hi'
      rw[List.getElem?_append_right (by simp)] at hx
      simp at hx
      subst hx
      exact hob.obR (b:=b) (cap:=cap') hR (by simp[updB]) hw
  · intro i j z y c y' c' hi hj hbi hbj
    simp only[updB] at hbi hbj
    rcases hlive i hi with rfl | ⟨hil,hine,hi'⟩<;>rcases hlive j hj with rfl | ⟨hjl,hjne,hj'⟩
    · rfl
    · rw[if_pos rfl] at hbi
      rw[if_neg (Nat.ne_of_lt hjl)] at hbj
      simp at hbi
      rw[← hbi.1] at hbj
      exact absurd (h.inj j id b y' c' o cap hj' hlv hbj hb) hjne
    · rw[if_pos rfl] at hbj
      rw[if_neg (Nat.ne_of_lt hil)] at hbi
      simp at hbj
      rw[← hbj.1] at hbi
      exact absurd (h.inj i id b y c o cap hi' hlv hbi hb) hine
    · rw[if_neg (Nat.ne_of_lt hil)] at hbi
      rw[if_neg (Nat.ne_of_lt hjl)] at hbj
      exact h.inj i j z y c y' c' hi' hj' hbi hbj
  · rintro z ⟨i,y,c,hi,hz⟩ hzz
    simp only[updB] at hz
    rcases hlive i hi with rfl | ⟨hil,hine,hi'⟩
    · rw[if_pos rfl] at hz
      simp at hz
      rw[← hz.1] at hzz
      exact h.nz b ⟨id,o,cap,hlv,hb⟩ hzz
    · rw[if_neg (Nat.ne_of_lt hil)] at hz
      exact h.nz z ⟨i,y,c,hi',hz⟩ hzz
theorem Fr.reown {σ:St} {γ:Cx} {id:Nat} {ob:Ob} (ob':Ob) (ho:σ.objs[id]?=some ob) (hg:ob≠.gone) {b o cap o' cap':Nat} (hb:γ.blk id=some (b,o,cap))
    {w':World} (hoth:∀ k,k≠b→w'.heap[k]?=γ.w.heap[k]?) (hsz:w'.heap.size=γ.w.heap.size) (h1:w'.os=γ.w.os) (h2:w'.tape=γ.w.tape) (h3:w'.output=γ.w.output) :
    Fr σ.objs γ (σ.objs.set id .gone++[ob']) { γ with w:=w',blk:=updB γ.blk σ.objs.length (some (b,o',cap')) } where
  eos:=h1
  tape:=h2
  output:=h3
  size:=by simp[hsz]
  keep:=fun z _ hno=>hoth z (fun e=>hno ⟨id,o,cap,⟨ob,ho,hg⟩,e ▸ hb⟩)
  z0:=fun _ h=>h
  z1:=fun _ h=>.inl h
  own:=by
    rintro z ⟨i,y,c,⟨x,hx,hgx⟩,hz⟩
    simp only[updB] at hz
    split at hz
    · simp at hz
      left
      exact⟨id,o,cap,⟨ob,ho,hg⟩,by rw[hb,hz.1]⟩
    · have hi:i<σ.objs.length:=by have:=(List.getElem?_eq_some_iff.1 hx).1;simp at this;omega
      rw[List.getElem?_append_left (by simpa using hi),List.getElem?_set] at hx
      split at hx
      · split at hx<;>simp at hx;exact absurd hx.symm hgx
      · exact .inl ⟨i,y,c,⟨x,hx,hgx⟩,hz⟩
  len:=by simp
  old:=by
    rintro i hi ⟨x,hx,hgx⟩
    have hx0:=hx
    rw[List.getElem?_append_left (by simpa using hi),List.getElem?_set] at hx
    split at hx
    · split at hx<;>simp at hx;exact absurd hx.symm hgx
    · exact⟨by simp[updB,Nat.ne_of_lt hi],x,x,hx,hx0,Ob.like_refl hgx⟩
theorem src_cells {σ:St} {γ:Cx} (h:Sim σ γ) {x:AV} {cv:Value} (hv:RelV σ.objs γ.w γ.Z γ.blk x cv) {sz:Nat} (hsz:0<sz) {src:List (List AV)} (hs:srcRows σ x=some (sz,src)) :
    ∃ ad c,∃ g:Nat→Value,cv=.slice ad src.length c∧(∀ row∈src,row.length=sz)∧(0<src.length→∃ b o,ad=some ⟨b,o,none⟩∧∀ j,j<src.length * sz→γ.w.cell? ⟨b,o+j,none⟩=some (g j)) ∧
      ∀ r c v,cellAt src r c=some v→RelV σ.objs γ.w γ.Z γ.blk v (g (r * sz+c)):=by
  cases x with
  | tree sz' rows =>
    simp[srcRows] at hs
    obtain ⟨rfl,rfl⟩:=hs
    cases hv.tree_inv with
    | nil _ cap a=>exact⟨a,cap,fun _=>Go.undef,rfl,by simp,by simp,by simp[cellAt]⟩
    | tree _ _ b o cap f hz hr hcap hc ht =>
      refine⟨_,cap,fun j=>f (j / sz') (j % sz'),rfl,hr,fun hlen=>⟨b,o,rfl,?_⟩,?_⟩
      · intro j hj
        have h1:j / sz'<rows.length:=Nat.div_lt_of_lt_mul (by rw[Nat.mul_comm];exact hj)
        have h2:j % sz'<sz':=Nat.mod_lt _ hsz
        have hrl:(rows[j / sz']).length=sz':=hr _ (List.getElem_mem h1)
        have:=hc (j / sz') (j % sz') ((rows[j / sz'])[j % sz']'(by omega)) (by simp[cellAt,h1,h2,hrl])
        have e:j / sz' * sz'+j % sz'=j:=by rw[Nat.mul_comm];exact Nat.div_add_mod j sz'
        rw[e] at this
        exact this
      · intro r c v hcv
        have hcl:c<sz':=by
          simp only[cellAt,Option.bind_eq_some_iff] at hcv
          obtain ⟨y,hy,hyc⟩:=hcv
          have:=hr y (List.mem_of_getElem? hy)
          have:=(List.getElem?_eq_some_iff.1 hyc).1
          omega
        have e1:(r * sz'+c) / sz'=r:=by rw[Nat.mul_comm,Nat.mul_add_div hsz,Nat.div_eq_of_lt hcl];rfl
        have e2:(r * sz'+c) % sz'=c:=by rw[Nat.mul_comm,Nat.mul_add_mod,Nat.mod_eq_of_lt hcl]
        simp only[e1,e2]
        exact .frz _ _ (ht r c v hcv)
  | ref id sz' off len =>
    simp only[srcRows] at hs
    cases ho:σ.objs[id]? with
    | none=>simp[ho] at hs
    | some ob =>
      have hob:=h.obs id ob ho
      cases ob with
      | gone=>simp[ho] at hs
      | mp ag L=>simp[ho] at hs
      | var cells=>simp[ho] at hs
      | arr sz'' rows =>
        simp only[ho] at hs
        split at hs
        · rename_i he
          subst he
          simp at hs
          obtain ⟨rfl,rfl⟩:=hs
          obtain ⟨_,hrl,hob⟩:=hob
          cases hv with
          | frz _ _ h=>cases h
          | deadRef _ _ _ _ _ h=>rw[ho] at h;simp at h
          | refNil _ _ h hb =>
            rw[ho] at h;simp at h;subst h
            exact⟨none,0,fun _=>Go.undef,rfl,by simp,by simp,by simp[cellAt]⟩
          | refEnd _ _ _ b x bo rows' h hb hl =>
            exact⟨some ⟨b,x,none⟩,0,fun _=>Go.undef,by simp,by simp,by simp,by simp[cellAt]⟩
          | ref _ _ _ _ b o cap cap' rows' h hb hl hc hlc =>
            rw[ho] at h;simp at h
            subst h
            rcases hob with ⟨h1,_⟩ | ⟨b',o',cap'',cur,t,h1,h2,h3,h4,h5,h6⟩
            · rw[hb] at h1;simp at h1
            · rw[hb] at h1;simp at h1
              obtain ⟨rfl,rfl,rfl⟩:=h1
              have hlen:((rows.drop off).take len).length=len:=by simp;omega
              refine⟨_,cap',fun j=>cur.getD (o+off * sz''+j) Go.undef,by rw[hlen],?_,fun _=>⟨b,o+off * sz'',rfl,?_⟩,?_⟩
              · intro row hrow
                exact hrl row (List.mem_of_mem_drop (List.mem_of_mem_take hrow))
              · intro j hj
                rw[hlen] at hj
                refine cell_getD h2 ?_
                have:(off+len) * sz''≤cap * sz'':=Nat.mul_le_mul_right _ (by omega)
                rw[Nat.add_mul] at this
                omega
              · intro r c v hcv
                simp only[cellAt,List.getElem?_take,List.getElem?_drop] at hcv
                split at hcv
                · have:=h6 (off+r) c v hcv
                  rw[Nat.add_mul] at this
                  have e:o+(off * sz''+r * sz''+c)=o+off * sz''+(r * sz''+c):=by omega
                  rw[e] at this
                  exact this
                · simp at hcv
        · simp at hs
  | _=>simp[srcRows] at hs
end Go.Am
namespace Go.Am
variable {P:Program}
theorem cellAt_lt {rows:List (List AV)} {sz r c:Nat} {v:AV} (hr:∀ row∈rows,row.length=sz) (h:cellAt rows r c=some v):r<rows.length∧c<sz:=by
  simp only[cellAt,Option.bind_eq_some_iff] at h
  obtain ⟨y,hy,hyc⟩:=h
  have h1:=hr y (List.mem_of_getElem? hy)
  have h2:=(List.getElem?_eq_some_iff.1 hyc).1
  have h3:=(List.getElem?_eq_some_iff.1 hy).1
  omega
theorem cellAt_append {p s:List (List AV)} {r c:Nat}:cellAt (p++s) r c=if r<p.length then cellAt p r c else cellAt s (r - p.length) c:=by
  unfold cellAt
  split
  · rw[List.getElem?_append_left (by assumption)]
  · rw[List.getElem?_append_right (by omega)]
theorem flat_lt {r c n sz:Nat} (hr:r<n) (hc:c<sz):r * sz+c<n * sz:=by
  have:(r+1) * sz≤n * sz:=Nat.mul_le_mul_right _ hr
  rw[Nat.add_mul] at this;omega
theorem two_cells {R:AV→Value→Prop} {p s:List (List AV)} {sz:Nat} (hp:∀ row∈p,row.length=sz) (hs:∀ row∈s,row.length=sz) {go g:Nat→Value}
    (h1:∀ r c v,cellAt p r c=some v→R v (go (r * sz+c))) (h2:∀ r c v,cellAt s r c=some v→R v (g (r * sz+c))) (rest:List Value)
    (r c:Nat) (v:AV) (h:cellAt (p++s) r c=some v) :
    R v (((((List.range (p.length * sz)).map go)++((List.range (s.length * sz)).map g))++rest).toArray.getD (r * sz+c) Go.undef):=by
  rw[cellAt_append] at h
  simp only[Array.getD_eq_getD_getElem?,List.getElem?_toArray]
  split at h
  · obtain ⟨hr,hc⟩:=cellAt_lt hp h
    have:=flat_lt hr hc
    rw[List.append_assoc,List.getElem?_append_left (by simpa using this)]
    simp[this]
    exact h1 r c v h
  · rename_i hge
    obtain ⟨hr,hc⟩:=cellAt_lt hs h
    have hl:=flat_lt hr hc
    have e:r * sz+c=p.length * sz+((r - p.length) * sz+c):=by
      have:r=p.length+(r - p.length):=by omega
      conv=>lhs;rw[this,Nat.add_mul]
      omega
    rw[List.getElem?_append_left (by simp;omega),List.getElem?_append_right (by simp;omega)]
    have e2:r * sz+c - (List.map go (List.range (p.length * sz))).length=(r - p.length) * sz+c:=by simp;omega
    rw[e2]
    simp[hl]
    exact h2 _ _ _ h
theorem dst_cells {σ:St} {γ:Cx} (h:Sim σ γ) {x:AV} {cv:Value} (hv:RelV σ.objs γ.w γ.Z γ.blk x cv) {sz:Nat} {pre:List (List AV)} {σ1:St} (hs:dstRows σ sz x=some (pre,σ1)) :
    (Sim σ1 γ∧Fr σ.objs γ σ1.objs γ∧∃ k,σ1.objs.length=k) ∧
    ((cv=.slice none 0 0∧pre=[]) ∨
     (∃ id b x bo cur t,cv=.slice (some ⟨b,x,none⟩) 0 0∧pre=[]∧Live σ.objs id∧σ1 = { σ with objs:=σ.objs.set id .gone }∧γ.blk id=some (b,bo)∧γ.w.heap[b]?=some (.cells cur t (0,0))) ∨
     ∃ id off rows b o cap cap' cur t,σ.objs[id]?=some (.arr sz rows)∧σ1 = { σ with objs:=σ.objs.set id .gone }∧γ.blk id=some (b,o,cap)∧γ.w.heap[b]?=some (.cells cur t (0,0)) ∧
      cv=.slice (some ⟨b,o+off * sz,none⟩) pre.length cap'∧pre.length≤cap'∧cap'≤maxLen∧o+off * sz+cap' * sz≤cur.size∧(∀ row∈pre,row.length=sz) ∧
      ∀ r c v,cellAt pre r c=some v→RelV σ.objs γ.w γ.Z γ.blk v (cur.getD (o+off * sz+(r * sz+c)) Go.undef)):=by
  unfold dstRows at hs
  split at hs
  · simp at hs
    obtain ⟨rfl,rfl⟩:=hs
    exact⟨⟨h,Fr.refl _ _,_,rfl⟩,.inl ⟨hv.lit_inv,rfl⟩⟩
  · rename_i id sz' off len
    cases ho:σ.objs[id]? with
    | none=>simp[ho] at hs
    | some ob =>
      have hob:=h.obs id ob ho
      cases ob with
      | gone=>simp[ho] at hs
      | mp ag L=>simp[ho] at hs
      | var cells=>simp[ho] at hs
      | arr sz'' rows =>
        simp only[ho] at hs
        split at hs
        · rename_i he
          obtain ⟨he1,he2⟩:=he
          subst he1
          subst he2
          simp at hs
          obtain ⟨rfl,rfl⟩:=hs
          refine⟨⟨h.kill id,Fr.kill _ _ _,_,rfl⟩,?_⟩
          obtain ⟨_,hrl,hob⟩:=hob
          cases hv with
          | frz _ _ h=>cases h
          | deadRef _ _ _ _ _ h=>rw[ho] at h;simp at h
          | refNil _ _ h hb=>left;exact⟨rfl,by simp⟩
          | refEnd _ _ _ b x bo rows' h' hb hl =>
            right;left
            rcases hob with ⟨h1,_⟩ | ⟨b',o',cap'',cur,t,h1,h2,_⟩
            · rw[hb] at h1;simp at h1
            · rw[hb] at h1;simp at h1
              obtain ⟨rfl,_⟩:=h1
              exact⟨id,b,x,bo,cur,t,rfl,by simp,⟨_,ho,by simp⟩,rfl,hb,h2⟩
          | ref _ _ _ _ b o cap cap' rows' h' hb hl hc hlc =>
            rw[ho] at h';simp at h'
            subst h'
            rcases hob with ⟨h1,_⟩ | ⟨b',o',cap'',cur,t,h1,h2,h3,h4,h5,h6⟩
            · rw[hb] at h1;simp at h1
            · rw[hb] at h1;simp at h1
              obtain ⟨rfl,rfl,rfl⟩:=h1
              right;right
              have hlen:((rows.drop off).take len).length=len:=by simp;omega
              refine⟨id,off,rows,b,o,cap,cap',cur,t,ho,rfl,hb,h2,by rw[hlen],by omega,by omega,?_,?_,?_⟩
              · have:(off+cap') * sz''≤cap * sz'':=Nat.mul_le_mul_right _ hc
                rw[Nat.add_mul] at this;omega
              · intro row hrow
                exact hrl row (List.mem_of_mem_drop (List.mem_of_mem_take hrow))
              · intro r c v hcv
                simp only[cellAt,List.getElem?_take,List.getElem?_drop] at hcv
                split at hcv
                · have:=h6 (off+r) c v hcv
                  rw[Nat.add_mul] at this
                  have e:o+(off * sz''+r * sz''+c)=o+off * sz''+(r * sz''+c):=by omega
                  rw[e] at this
                  exact this
                · simp at hcv
        · simp at hs
  · simp at hs
theorem run_append_room' (w:World) (t ty' e:TypeId) (i:TypeInfo) (ht:P.underlying t=some (.slice e)) (hi:P.info? e=some i)
    (g o sLen sCap:Nat) (cur:Array Value) (tt:TypeId) (hg:w.heap[g]?=some (.cells cur tt (0,0)))
    (xa:Option Addr) (m c:Nat) (news:List Value) (hl:news.length=m * i.size) (hnews:0<m→∃ a,xa=some a∧∀ j u,news[j]?=some u→w.cell? (a.add j)=some u) (h1:∀ u∈news,u.oneCell'=true)
    (hroom:sLen+m≤sCap) (hfit:o+sLen * i.size+news.length≤cur.size) :
    (Builtin.append_ #[t,t] ty' #[.slice (some ⟨g,o,none⟩) sLen sCap,.slice xa m c]).run P w =
      .ok (.slice (some ⟨g,o,none⟩) (sLen+m) sCap) (w.setRow g (cur.toList.take (o+sLen * i.size)++news++cur.toList.drop (o+sLen * i.size+news.length)).toArray):=by
  have hf:(Builtin.firstCells i.size m (.slice xa m c)).run P w=.ok news.toArray w:=by
    rcases Nat.eq_zero_or_pos m with h0 | hp
    · subst h0
      have hn:news=[]:=List.eq_nil_of_length_eq_zero (by simpa using hl)
      subst hn
      cases xa<;>simp[Builtin.firstCells,loadCells,loadCellsFrom]
    · obtain ⟨a,rfl,hc⟩:=hnews hp
      exact run_firstCells_some w i.size m a m c news hl hc
  have hst:=run_storeCells_at P g (o+sLen * i.size) tt news 0 cur w hg (by simpa using hfit) h1
  simp only[Nat.add_zero] at hst
  simp[Builtin.append_,run_underlying ht,sizeOf,typeInfo,hi,Builtin.lenOf,hroom,hf,Addr.add_none,hst]
theorem getElem?_range_map {g:Nat→Value} {n j:Nat} {u:Value} (h:((List.range n).map g)[j]?=some u):j<n∧u=g j:=by
  have hj:=(List.getElem?_eq_some_iff.1 h).1
  simp at hj
  simp[hj] at h
  exact⟨hj,h.symm⟩
theorem append_sound {σ σ1:St} {γ:Cx} (h:Sim σ γ) {t oty:TypeId} {sz:Nat} {z:List Value} (hk:(ty P t).kind=1) (hke:(ty P (ty P t).elem).kind≠99) (hz:(ty P (ty P t).elem).zero=some z)
    (hsz:sz=(ty P (ty P t).elem).size) (h0:0<sz) (hzl:z.length=sz) {sD x:AV} {cvS cvX:Value} (hS:RelV σ.objs γ.w γ.Z γ.blk sD cvS) (hX:RelV σ.objs γ.w γ.Z γ.blk x cvX)
    {pre src:List (List AV)} (hd:dstRows σ sz sD=some (pre,σ1)) (hsrc:srcRows σ x=some (sz,src)) (hlen:pre.length+src.length≤549755813888) (hby:(ty P (ty P t).elem).bytes≤128)
    (hsc:(src.all fun row=>row.all scal)=true) :
    ∃ cv' γ1,(Builtin.append_ #[t,t] oty #[cvS,cvX]).run P γ.w=.ok cv' γ1.w∧γ1.tmps=γ.tmps∧Sim { σ1 with objs:=σ1.objs++[.arr sz (pre++src)] } γ1 ∧
      Fr σ.objs γ (σ1.objs++[.arr sz (pre++src)]) γ1∧RelV (σ1.objs++[.arr sz (pre++src)]) γ1.w γ1.Z γ1.blk (.ref σ1.objs.length sz 0 (pre.length+src.length)) cv':=by
  obtain ⟨i,d,hi,hud,hsize,hbytes,hzero⟩:=ty_info hke
  have ht:=ty_slice hk
  have hisz:i.size=sz:=by rw[← hsize,← hsz]
  obtain ⟨zv,hzv,hzc⟩ :∃zv,i.zero=some zv∧zv.cells.size=sz:=by
    rw[hzero] at hz
    cases hv:i.zero with
    | none=>simp[hv] at hz
    | some v=>simp[hv] at hz;exact⟨v,rfl,by rw[← hzl,← hz];simp⟩
  obtain ⟨ad,c,g,rfl,hsr,hsa,hsrel⟩:=src_cells h hX h0 hsrc
  obtain ⟨⟨hs1,hf1,_⟩,hcase⟩:=dst_cells h hS hd
  let news:=(List.range (src.length * sz)).map g
  have hnl:news.length=src.length * i.size:=by simp[news,hisz]
  have hnone:∀ u∈news,u.oneCell'=true:=by
    intro u hu
    obtain ⟨j,hj⟩:=List.mem_iff_getElem?.1 hu
    obtain ⟨hjl,rfl⟩:=getElem?_range_map hj
    have h1:j / sz<src.length:=Nat.div_lt_of_lt_mul (by rw[Nat.mul_comm];exact hjl)
    have h2:j % sz<sz:=Nat.mod_lt _ h0
    have hrl:(src[j / sz]).length=sz:=hsr _ (List.getElem_mem h1)
    have:=hsrel (j / sz) (j % sz) ((src[j / sz])[j % sz]'(by omega)) (by simp[cellAt,h1,h2,hrl])
    have e:j / sz * sz+j % sz=j:=by rw[Nat.mul_comm];exact Nat.div_add_mod j sz
    rw[e] at this
    refine scal_one this ?_
    rw[List.all_eq_true] at hsc
    have:=hsc _ (List.getElem_mem h1)
    rw[List.all_eq_true] at this
    exact this _ (List.getElem_mem _)
  have hnews:0<src.length→∃ a,ad=some a∧∀ j u,news[j]?=some u→γ.w.cell? (a.add j)=some u:=by
    intro hp
    obtain ⟨b,o,rfl,hc⟩:=hsa hp
    refine⟨_,rfl,fun j u hu=>?_⟩
    obtain ⟨hjl,rfl⟩:=getElem?_range_map hu
    rw[Addr.add_none]
    exact hc j hjl
  have hmax:pre.length+src.length≤maxLen:=by unfold maxLen;omega
  have hbb:(pre.length+src.length) * i.bytes≤140737488355328:=by
    rw[← hbytes]
    calc _≤549755813888 * 128:=Nat.mul_le_mul hlen hby
      _≤_:=by omega
  have fresh:∀ (old:Nat) (go:Nat→Value),(∀ row∈pre,row.length=sz)→(∀ r c v,cellAt pre r c=some v→RelV σ.objs γ.w γ.Z γ.blk v (go (r * sz+c))) →
      ∀ (w':World) (cap:Nat),pre.length+src.length≤cap→cap≤maxLen →
        w'=γ.w.drew.alloc (.cells (((List.range (pre.length * sz)).map go).toArray++news.toArray++Builtin.zeroCells zv.cells (cap - (pre.length+src.length))) (ty P t).elem) →
        ∃ γ1:Cx,γ1.w=w'∧γ1.tmps=γ.tmps∧Sim { σ1 with objs:=σ1.objs++[.arr sz (pre++src)] } γ1∧Fr σ.objs γ (σ1.objs++[.arr sz (pre++src)]) γ1 ∧
          RelV (σ1.objs++[.arr sz (pre++src)]) γ1.w γ1.Z γ1.blk (.ref σ1.objs.length sz 0 (pre.length+src.length)) (.slice (some ⟨γ.w.heap.size,0,none⟩) (pre.length+src.length) cap):=by
    intro old go hpl hprel w' cap hc1 hc2 hw'
    have hR1:∀ v cv,RelV σ.objs γ.w γ.Z γ.blk v cv→RelV σ1.objs γ.w γ.Z γ.blk v cv:=by
      intro v cv hv
      refine hv.mono (fun b hb=>⟨hb,rfl⟩) (fun i o ho=>?_)
      unfold dstRows at hd
      split at hd
      · simp at hd
        rw[← hd.2]
        by_cases hgo:o=.gone
        · subst hgo;exact .inl ho
        · exact .inr ⟨rfl,o,ho,Ob.like_refl hgo⟩
      · rename_i id sz' off len
        have hi:i<σ.objs.length:=(List.getElem?_eq_some_iff.1 ho).1
        split at hd
        · split at hd
          · simp at hd
            rw[← hd.2]
            show (σ.objs.set id Ob.gone)[i]?=some Ob.gone∨_
            simp only[List.getElem?_set]
            by_cases hii:id=i
            · left;simp[hii,hi]
            · rw[if_neg hii]
              by_cases hgo:o=.gone
              · subst hgo;exact .inl ho
              · exact .inr ⟨trivial,o,ho,Ob.like_refl hgo⟩
          · simp at hd
        · simp at hd
      · simp at hd
    let cur:=((List.range (pre.length * sz)).map go).toArray++news.toArray++Builtin.zeroCells zv.cells (cap - (pre.length+src.length))
    have hob:ObNew σ1.objs γ.w γ.Z γ.blk 0 cap cur (.arr sz (pre++src)):=by
      refine⟨h0,?_,?_,by simpa using hc1,hc2,?_⟩
      · intro row hrow
        rcases List.mem_append.1 hrow with h | h
        · exact hpl row h
        · exact hsr row h
      · simp only[cur,news,Array.size_append,List.size_toArray,List.length_map,List.length_range,size_zeroCells,hzc,← Nat.add_mul]
        have:pre.length+src.length+(cap - (pre.length+src.length))=cap:=by omega
        rw[this];omega
      · intro r c v hv
        have:=two_cells (R:=RelV σ1.objs γ.w γ.Z γ.blk) hpl hsr (fun r c v hv=>hR1 _ _ (hprel r c v hv)) (fun r c v hv=>hR1 _ _ (hsrel r c v hv)) (Builtin.zeroCells zv.cells (cap - (pre.length+src.length))).toList r c v hv
        rw[Nat.zero_add]
        have e:cur=(((List.range (pre.length * sz)).map go)++((List.range (src.length * sz)).map g)++(Builtin.zeroCells zv.cells (cap - (pre.length+src.length))).toList).toArray:=by
          apply Array.ext'
          simp[cur,news]
        rw[e]
        exact this
    refine⟨{ γ with w:=w',blk:=updB γ.blk σ1.objs.length (some (γ.w.heap.size,0,cap)) },rfl,rfl,?_,?_,?_⟩
    · exact hs1.push (t:=(ty P t).elem) (cur:=cur) (by rw[hw'];rfl) hob
    · exact hf1.trans (Fr.push (σ:=σ1) (t:=(ty P t).elem) (cur:=cur) _ (by rw[hw'];rfl) (by rw[hw'];rfl) (by rw[hw'];rfl) (by rw[hw'];rfl))
    · have:=RelV.ref (os:=σ1.objs++[.arr sz (pre++src)]) (w:=w') (Z:=γ.Z) (blk:=updB γ.blk σ1.objs.length (some (γ.w.heap.size,0,cap))) σ1.objs.length sz 0 (pre.length+src.length) γ.w.heap.size 0 cap cap (pre++src)
        (by simp) (by simp[updB]) (by simp) (by omega) hc1
      simpa using this
  rcases hcase with ⟨rfl,rfl⟩ | ⟨id,b,x,bo,cur,tt,rfl,rfl,hlv,rfl,hb,hheap⟩ | ⟨id,off,rows,b,o,cap,cap',cur,tt,ho,rfl,hb,hheap,rfl,hpc,hcm,hfit,hpl,hprel⟩
  · rcases Nat.eq_zero_or_pos src.length with hm | hp
    ·
      have hsn:src=[]:=List.eq_nil_of_length_eq_zero hm
      subst hsn
      refine⟨.slice none 0 0,{ γ with blk:=updB γ.blk σ1.objs.length none },?_,rfl,hs1.pushNil h0,hf1.trans (Fr.pushNil _ _ _),?_⟩
      · cases ad<;>simp[Builtin.append_,run_underlying ht,sizeOf,typeInfo,hi,Builtin.lenOf,Builtin.firstCells,loadCells,loadCellsFrom]
      · exact .refNil _ _ (by simp) (by simp[updB])
    · obtain ⟨a,rfl,hc⟩:=hnews hp
      have hr:=run_append_nil (P:=P) γ.w t oty _ i zv ht hi hzv a src.length c news hnl hc hp (by unfold maxLen at hmax;simp at hmax;omega) (by have hb:=hbb;simp only[List.length_nil,Nat.zero_add] at hb;omega)
      have hge:=grownCap_ge γ.w src.length 0 (ty P t).elem
      have hcm:=grownCap_le_maxLen γ.w src.length 0 (ty P t).elem (by simpa using hmax)
      obtain ⟨γ1,e1,e2,e3,e4,e5⟩:=fresh 0 (fun _=>Go.undef) (by simp) (by simp[cellAt]) _ (grownCap γ.w src.length 0 (ty P t).elem) (by simpa using hge) hcm rfl
      simp only[List.length_nil,Nat.zero_mul,List.range_zero,List.map_nil,Nat.zero_add,Array.empty_append] at e1 e5
      refine⟨.slice (some ⟨γ.w.heap.size,0,none⟩) src.length (grownCap γ.w src.length 0 (ty P t).elem),γ1,?_,e2,e3,e4,?_⟩
      · rw[hr,e1]
      · simpa using e5
  · rcases Nat.eq_zero_or_pos src.length with hm | hp
    · have hsn:src=[]:=List.eq_nil_of_length_eq_zero hm
      subst hsn
      obtain ⟨ob,ho,hg⟩:=hlv
      have hoth:∀ k,k≠b→γ.w.heap[k]?=γ.w.heap[k]?:=fun _ _=>rfl
      have hsim:=h.reown (ob':=.arr sz []) (o':=0) (cap':=0) ho hg (o:=bo.1) (cap:=bo.2) hb hheap hoth rfl ⟨h0,by simp,by simp,by simp,by simp[maxLen],by simp[cellAt]⟩
      have hfr:=Fr.reown (γ:=γ) (o':=0) (cap':=0) (.arr sz []) ho hg (o:=bo.1) (cap:=bo.2) hb (w':=γ.w) hoth rfl rfl rfl rfl
      refine⟨.slice (some ⟨b,x,none⟩) 0 0,{ γ with w:=γ.w,blk:=updB γ.blk σ.objs.length (some (b,0,0)) },?_,rfl,by simpa using hsim,by simpa using hfr,?_⟩
      · cases ad<;>simp[Builtin.append_,run_underlying ht,sizeOf,typeInfo,hi,Builtin.lenOf,Builtin.firstCells,loadCells,loadCellsFrom,storeCells]
      · have:=RelV.refEnd (os:=σ.objs.set id .gone++[.arr sz []]) (w:=γ.w) (Z:=γ.Z) (blk:=updB γ.blk σ.objs.length (some (b,0,0))) σ.objs.length sz 0 b x (0,0) []
          (by rw[List.getElem?_append_right (by simp)];simp) (by simp[updB]) (by simp)
        simpa using this
    · obtain ⟨a,rfl,hc⟩:=hnews hp
      have hr:=run_append_grow (P:=P) γ.w t oty _ i zv ht hi hzv ⟨b,x,none⟩ 0 0 [] (by simp) (by simp) a src.length c news hnl hc (by omega) (by unfold maxLen at hmax;simp at hmax;omega) (growslice_fits (by omega) (by simpa using hbb))
      have hge:=grownCap_ge γ.w (0+src.length) 0 (ty P t).elem
      have hcm:=grownCap_le_maxLen γ.w (0+src.length) 0 (ty P t).elem (by simpa using hmax)
      obtain ⟨γ1,e1,e2,e3,e4,e5⟩:=fresh 0 (fun _=>Go.undef) (by simp) (by simp[cellAt]) _ (grownCap γ.w (0+src.length) 0 (ty P t).elem) (by simpa using hge) hcm rfl
      refine⟨.slice (some ⟨γ.w.heap.size,0,none⟩) (0+src.length) (grownCap γ.w (0+src.length) 0 (ty P t).elem),γ1,?_,e2,e3,e4,?_⟩
      · rw[hr,e1];simp
      · simpa using e5
  · by_cases hroom:pre.length+src.length≤cap'
    ·
      have hmul:pre.length * sz+src.length * sz≤cap' * sz:=by rw[← Nat.add_mul];exact Nat.mul_le_mul_right _ hroom
      have hnl':news.length=src.length * sz:=by rw[hnl,hisz]
      have hr:=run_append_room' (P:=P) γ.w t oty _ i ht hi b (o+off * sz) pre.length cap' cur tt hheap ad src.length c news hnl hnews hnone hroom (by rw[hisz,hnl'];omega)
      have hob:ObNew σ.objs γ.w γ.Z γ.blk (o+off * sz) cap' (cur.toList.take (o+off * sz+pre.length * i.size)++news++cur.toList.drop (o+off * sz+pre.length * i.size+news.length)).toArray (.arr sz (pre++src)):=by
        refine⟨h0,?_,?_,by simpa using hroom,hcm,?_⟩
        · intro row hrow
          rcases List.mem_append.1 hrow with h | h
          · exact hpl row h
          · exact hsr row h
        · simp only[List.size_toArray,List.length_append,List.length_take,List.length_drop,Array.length_toList,hisz,hnl']
          omega
        · intro r c v hv
          rw[getD_splice cur _ news (by rw[hisz,hnl'];omega),hisz,hnl']
          rw[cellAt_append] at hv
          split at hv
          · obtain ⟨hr1,hc1⟩:=cellAt_lt hpl hv
            have:=flat_lt hr1 hc1
            rw[if_neg (by omega)]
            exact hprel r c v hv
          · obtain ⟨hr1,hc1⟩:=cellAt_lt hsr hv
            have hl:=flat_lt hr1 hc1
            have e:r * sz+c=pre.length * sz+((r - pre.length) * sz+c):=by
              have:r=pre.length+(r - pre.length):=by omega
              conv=>lhs;rw[this,Nat.add_mul]
              omega
            rw[if_pos (by omega)]
            have e2:o+off * sz+(r * sz+c) - (o+off * sz+pre.length * sz)=(r - pre.length) * sz+c:=by omega
            rw[e2]
            simp only[news,List.getD_eq_getElem?_getD]
            simp[hl]
            exact hsrel _ _ _ hv
      have hsim:=h.reown ho (by simp) hb (setRow_heap γ.w b cur _ tt _ hheap) (fun k hk=>setRow_other γ.w b k _ hk) (setRow_size _ _ _) hob
      have hfr:=Fr.reown (γ:=γ) (o':=o+off * sz) (cap':=cap') (.arr sz (pre++src)) ho (by simp) hb (w':=γ.w.setRow b (cur.toList.take (o+off * sz+pre.length * i.size)++news++cur.toList.drop (o+off * sz+pre.length * i.size+news.length)).toArray) (fun k hk=>setRow_other γ.w b k _ hk) (setRow_size _ _ _) rfl rfl rfl
      refine⟨_,{ γ with w:=γ.w.setRow b (cur.toList.take (o+off * sz+pre.length * i.size)++news++cur.toList.drop (o+off * sz+pre.length * i.size+news.length)).toArray,blk:=updB γ.blk σ.objs.length (some (b,o+off * sz,cap')) },hr,rfl,?_,?_,?_⟩
      · simpa using hsim
      · simpa using hfr
      · have:=RelV.ref (os:=σ.objs.set id .gone++[.arr sz (pre++src)]) (w:=γ.w.setRow b (cur.toList.take (o+off * sz+pre.length * i.size)++news++cur.toList.drop (o+off * sz+pre.length * i.size+news.length)).toArray) (Z:=γ.Z)
          (blk:=updB γ.blk σ.objs.length (some (b,o+off * sz,cap'))) σ.objs.length sz 0 (pre.length+src.length) b (o+off * sz) cap' cap' (pre++src)
          (by rw[List.getElem?_append_right (by simp)];simp) (by simp[updB]) (by simp) (by omega) hroom
        simpa using this
    ·
      let go:Nat→Value:=fun j=>cur.getD (o+off * sz+j) Go.undef
      let olds:=(List.range (pre.length * sz)).map go
      have hol:olds.length=pre.length * i.size:=by simp[olds,hisz]
      have hpc':pre.length * sz≤cap' * sz:=Nat.mul_le_mul_right _ hpc
      have holds:∀ j v,olds[j]?=some v→γ.w.cell? ((⟨b,o+off * sz,none⟩:Addr).add j)=some v:=by
        intro j v hj
        obtain ⟨hjl,rfl⟩:=getElem?_range_map hj
        rw[Addr.add_none]
        exact cell_getD hheap (by omega)
      have hp:0<src.length:=by omega
      obtain ⟨a,rfl,hc⟩:=hnews hp
      have hr:=run_append_grow (P:=P) γ.w t oty _ i zv ht hi hzv ⟨b,o+off * sz,none⟩ pre.length cap' olds hol holds a src.length c news hnl hc (by omega) (by unfold maxLen at hmax;omega) (growslice_fits (by omega) hbb)
      have hge:=grownCap_ge γ.w (pre.length+src.length) cap' (ty P t).elem
      have hcm':=grownCap_le_maxLen γ.w (pre.length+src.length) cap' (ty P t).elem hmax
      obtain ⟨γ1,e1,e2,e3,e4,e5⟩:=fresh 0 go hpl hprel _ (grownCap γ.w (pre.length+src.length) cap' (ty P t).elem) hge hcm' rfl
      refine⟨_,γ1,?_,e2,e3,e4,e5⟩
      rw[hr,e1]
theorem copy_sound {σ:St} {γ:Cx} (h:Sim σ γ) {t t' oty:TypeId} {sz:Nat} (hk:(ty P t).kind=1) (hke:(ty P (ty P t).elem).kind≠99)
    (hsz:sz=(ty P (ty P t).elem).size) (h0:0<sz) {id off len:Nat} {x:AV} {cvS cvX:Value} (hS:RelV σ.objs γ.w γ.Z γ.blk (.ref id sz off len) cvS) (hX:RelV σ.objs γ.w γ.Z γ.blk x cvX)
    {rows:List (List AV)} (ho:σ.objs[id]?=some (.arr sz rows)) {src:List (List AV)} (hsrc:srcRows σ x=some (sz,src)) (hsc:(src.all fun row=>row.all scal)=true) :
    ∃ w',(Builtin.copy_ #[t,t'] oty #[cvS,cvX]).run P γ.w=.ok (.int .i64 (min src.length len:Nat)) w' ∧
      Sim { σ with objs:=σ.objs.set id (.arr sz (rows.take off++src.take (min src.length len)++rows.drop (off+min src.length len))) } { γ with w:=w' } ∧
      Fr σ.objs γ (σ.objs.set id (.arr sz (rows.take off++src.take (min src.length len)++rows.drop (off+min src.length len)))) { γ with w:=w' }:=by
  obtain ⟨i,d,hi,hud,hsize,hbytes,hzero⟩:=ty_info hke
  have ht:=ty_slice hk
  have hisz:i.size=sz:=by rw[← hsize,← hsz]
  obtain ⟨ad,c,g,rfl,hsr,hsa,hsrel⟩:=src_cells h hX h0 hsrc
  have hid:id<σ.objs.length:=(List.getElem?_eq_some_iff.1 ho).1
  have zero:∀ (ad':Option Addr) (cap':Nat),min src.length len=0→cvS=.slice ad' len cap'→∃ w',(Builtin.copy_ #[t,t'] oty #[cvS,.slice ad src.length c]).run P γ.w=.ok (.int .i64 (min src.length len:Nat)) w' ∧
      Sim { σ with objs:=σ.objs.set id (.arr sz (rows.take off++src.take (min src.length len)++rows.drop (off+min src.length len))) } { γ with w:=w' } ∧
      Fr σ.objs γ (σ.objs.set id (.arr sz (rows.take off++src.take (min src.length len)++rows.drop (off+min src.length len)))) { γ with w:=w' }:=by
    intro ad' cap' hz hcv
    have hset:σ.objs.set id (.arr sz rows)=σ.objs:=by
      apply List.ext_getElem?
      intro j
      rw[List.getElem?_set]
      split
      · rename_i e;subst e;simp[ho]
      · rfl
    refine⟨γ.w,?_,?_,?_⟩
    · have hm:Nat.min src.length len=0:=hz
      subst hcv
      cases ad<;>cases ad'<;>simp[Builtin.copy_,run_underlying ht,sizeOf,typeInfo,hi,Builtin.lenOf,Builtin.firstCells,loadCells,loadCellsFrom,storeCells,hm,goInt,hz]
    · rw[hz];simp[hset];exact h
    · rw[hz];simp[hset];exact Fr.refl _ _
  cases hS with
  | frz _ _ h=>cases h
  | deadRef _ _ _ _ _ h=>rw[ho] at h;simp at h
  | refNil _ _ h hb=>exact zero none 0 (by simp) rfl
  | refEnd _ _ _ b x bo rows' h hb hl=>exact zero _ 0 (by simp) rfl
  | ref _ _ _ _ b o cap cap' rows' h' hb hl hc hlc =>
    rw[ho] at h';simp at h'
    subst h'
    rcases Nat.eq_zero_or_pos (min src.length len) with hz | hp
    · exact zero _ _ hz rfl
    obtain ⟨_,hrl,hob⟩:=h.obs id _ ho
    rcases hob with ⟨h1,_⟩ | ⟨b',o',cap'',cur,tt,h1,h2,h3,h4,h5,h6⟩
    · rw[hb] at h1;simp at h1
    rw[hb] at h1;simp at h1
    obtain ⟨rfl,rfl,rfl⟩:=h1
    generalize hn:min src.length len=n at *
    have hn1:n≤src.length:=by omega
    have hn2:n≤len:=by omega
    let news:=(List.range (n * sz)).map g
    have hnl:news.length=n * sz:=by simp[news]
    have hone:∀ u∈news,u.oneCell'=true:=by
      intro u hu
      obtain ⟨j,hj⟩:=List.mem_iff_getElem?.1 hu
      obtain ⟨hjl,rfl⟩:=getElem?_range_map hj
      have k1:j / sz<n:=Nat.div_lt_of_lt_mul (by rw[Nat.mul_comm];exact hjl)
      have k2:j % sz<sz:=Nat.mod_lt _ h0
      have k3:j / sz<src.length:=by omega
      have hrl:(src[j / sz]).length=sz:=hsr _ (List.getElem_mem k3)
      have:=hsrel (j / sz) (j % sz) ((src[j / sz])[j % sz]'(by omega)) (by simp[cellAt,k3,k2,hrl])
      have e:j / sz * sz+j % sz=j:=by rw[Nat.mul_comm];exact Nat.div_add_mod j sz
      rw[e] at this
      refine scal_one this ?_
      rw[List.all_eq_true] at hsc
      have:=hsc _ (List.getElem_mem k3)
      rw[List.all_eq_true] at this
      exact this _ (List.getElem_mem _)
    obtain ⟨sb,so,rfl,hcell⟩:=hsa (by omega)
    have hle:n * sz≤src.length * sz:=Nat.mul_le_mul_right _ hn1
    have hld:=run_loadCells_list (P:=P) γ.w ⟨sb,so,none⟩ news (fun j v hj=>by
      obtain ⟨hjl,rfl⟩:=getElem?_range_map hj
      rw[Addr.add_none]
      exact hcell j (by omega))
    have hfit:(off+n) * sz≤cap * sz:=Nat.mul_le_mul_right _ (by omega)
    rw[Nat.add_mul] at hfit
    have hst:=run_storeCells_at P b (o+off * sz) tt news 0 cur γ.w h2 (by rw[hnl];omega) hone
    simp only[Nat.add_zero] at hst
    have hrun:(Builtin.copy_ #[t,t'] oty #[.slice (some ⟨b,o+off * sz,none⟩) len cap',.slice (some ⟨sb,so,none⟩) src.length c]).run P γ.w=.ok (.int .i64 (n:Nat)) (γ.w.setRow b (cur.toList.take (o+off * sz)++news++cur.toList.drop (o+off * sz+news.length)).toArray):=by
      have hm:Nat.min src.length len=n:=hn
      rw[hnl] at hld
      simp[Builtin.copy_,run_underlying ht,sizeOf,typeInfo,hi,Builtin.lenOf,Builtin.firstCells,hm,hisz,hld,hst,goInt]
    have hobn:ObNew σ.objs γ.w γ.Z γ.blk o cap (cur.toList.take (o+off * sz)++news++cur.toList.drop (o+off * sz+news.length)).toArray (.arr sz (rows.take off++src.take n++rows.drop (off+n))):=by
      refine⟨h0,?_,?_,?_,h5,?_⟩
      · intro row hrow
        simp only[List.mem_append] at hrow
        rcases hrow with (hr | hr) | hr
        · exact hrl row (List.mem_of_mem_take hr)
        · exact hsr row (List.mem_of_mem_take hr)
        · exact hrl row (List.mem_of_mem_drop hr)
      · simp only[List.size_toArray,List.length_append,List.length_take,List.length_drop,Array.length_toList,hnl]
        omega
      · simp;omega
      · intro r cc v hv
        rw[getD_splice cur _ news (by rw[hnl];omega),hnl]
        have hlt:cc<sz:=by
          simp only[cellAt,Option.bind_eq_some_iff] at hv
          obtain ⟨y,hy,hyc⟩:=hv
          have hm:=List.mem_of_getElem? hy
          have:=(List.getElem?_eq_some_iff.1 hyc).1
          simp only[List.mem_append] at hm
          rcases hm with (hr | hr) | hr
          · have:=hrl y (List.mem_of_mem_take hr);omega
          · have:=hsr y (List.mem_of_mem_take hr);omega
          · have:=hrl y (List.mem_of_mem_drop hr);omega
        rcases Nat.lt_or_ge r off with k1 | k1
        · have e:cellAt (rows.take off++src.take n++rows.drop (off+n)) r cc=cellAt rows r cc:=by
            simp only[cellAt,List.append_assoc]
            rw[List.getElem?_append_left (by simp;omega),List.getElem?_take,if_pos k1]
          rw[e] at hv
          have hm:(r+1) * sz≤off * sz:=Nat.mul_le_mul_right _ (by omega)
          rw[Nat.add_mul] at hm
          rw[if_neg (by omega)]
          exact h6 r cc v hv
        · rcases Nat.lt_or_ge r (off+n) with k2 | k2
          · have e:cellAt (rows.take off++src.take n++rows.drop (off+n)) r cc=cellAt src (r - off) cc:=by
              simp only[cellAt,List.append_assoc]
              rw[List.getElem?_append_right (by simp;omega),List.getElem?_append_left (by simp;omega),List.getElem?_take,if_pos (by simp;omega)]
              congr 2;simp;omega
            rw[e] at hv
            have e1:r=off+(r - off):=by omega
            have e2:r * sz=off * sz+(r - off) * sz:=by rw[← Nat.add_mul,← e1]
            have hm:(r - off+1) * sz≤n * sz:=Nat.mul_le_mul_right _ (by omega)
            rw[Nat.add_mul] at hm
            rw[if_pos (by omega)]
            have e3:o+(r * sz+cc) - (o+off * sz)=(r - off) * sz+cc:=by omega
            rw[e3]
            have hl:(r - off) * sz+cc<n * sz:=by omega
            simp only[news,List.getD_eq_getElem?_getD]
            simp[hl]
            exact hsrel _ _ _ hv
          · have e:cellAt (rows.take off++src.take n++rows.drop (off+n)) r cc=cellAt rows r cc:=by
              simp only[cellAt]
              rw[List.getElem?_append_right (by simp;omega),List.getElem?_drop]
              congr 2;simp;omega
            rw[e] at hv
            have hm:(off+n) * sz≤r * sz:=Nat.mul_le_mul_right _ k2
            rw[Nat.add_mul] at hm
            rw[if_neg (by omega)]
            exact h6 r cc v hv
    refine⟨_,hrun,?_,?_⟩
    · exact h.write ho (by simp) (by simp[Ob.like];omega) hb (setRow_heap γ.w b cur _ tt _ h2) (fun k hk=>setRow_other γ.w b k _ hk) (setRow_size _ _ _) hobn
    · exact Fr.write _ ho (by simp) (by simp[Ob.like];omega) hb (fun k hk=>setRow_other γ.w b k _ hk) (setRow_size _ _ _) rfl rfl rfl
end Go.Am
namespace Go.Am
variable {P:Program}
theorem foldl_put (l:List Value):∀ (j off:Nat) (cells:Array Value),off+j+l.length≤cells.size →
    ((l.zipIdx j).foldl (fun cs (x:Value × Nat)=>cs.setIfInBounds (off+x.2) x.1) cells).size=cells.size ∧
    ∀ k,((l.zipIdx j).foldl (fun cs (x:Value × Nat)=>cs.setIfInBounds (off+x.2) x.1) cells).getD k Go.undef=if off+j≤k∧k<off+j+l.length then l.getD (k - (off+j)) Go.undef else cells.getD k Go.undef:=by
  induction l with
  | nil=>intro j off cells _;simp;intro k h1 h2;omega
  | cons v l ih =>
    intro j off cells hl
    simp only[List.length_cons] at hl
    simp only[List.zipIdx_cons,List.foldl_cons]
    obtain ⟨h1,h2⟩:=ih (j+1) off (cells.setIfInBounds (off+j) v) (by simp;omega)
    refine⟨by rw[h1];simp,fun k=>?_⟩
    rw[h2 k]
    simp only[List.length_cons]
    by_cases c1:off+(j+1)≤k∧k<off+(j+1)+l.length
    · rw[if_pos c1,if_pos (by omega)]
      have:k - (off+j)=(k - (off+(j+1)))+1:=by omega
      rw[this];simp
    · rw[if_neg c1]
      by_cases c2:k=off+j
      · subst c2
        rw[if_pos (by omega)]
        simp[Array.getD_eq_getD_getElem?,show off+j<cells.size by omega]
      · rw[if_neg (by omega)]
        simp[Array.getD_eq_getD_getElem?,Array.getElem?_setIfInBounds_ne (Ne.symm c2)]
theorem fill_foldl (v:Value) (off:Nat) (cells:Array Value) :
    (v.cells.zipIdx.foldl (fun cs (c,j)=>cs.setIfInBounds (off+j) c) cells)=((v.cells.toList.zipIdx 0).foldl (fun cs (x:Value × Nat)=>cs.setIfInBounds (off+x.2) x.1) cells):=by
  rw[← Array.foldl_toList]
  simp
def CellsR (R:AV→Value→Prop) (cs:List AV) (cur:Array Value):Prop:=cur.size=cs.length∧∀ j x,cs[j]?=some x→R x (cur.getD j Go.undef)
theorem fill_rel {σ:St} {γ:Cx} {place:Nat→Option (Nat × Nat)}:∀ (parts:List (Nat × AV)) (pv:List (Nat × Value)) (cs:List AV) (cur:Array Value) (cs':List AV),
    parts.length=pv.length→(∀ (j:Nat) (p:Nat × AV) (q:Nat × Value),parts[j]?=some p→pv[j]?=some q→p.1=q.1∧RelV σ.objs γ.w γ.Z γ.blk p.2 q.2)→(∀ p∈parts,(cellsOf p.2).all scal=true) →
    CellsR (RelV σ.objs γ.w γ.Z γ.blk) cs cur→fillA place cs parts=some cs'→∃ cur',Instr.fill place cur pv=some cur'∧CellsR (RelV σ.objs γ.w γ.Z γ.blk) cs' cur'
  | [],pv,cs,cur,cs',hl,_,_,hc,h=>by
    have:pv=[]:=List.eq_nil_of_length_eq_zero hl.symm
    subst this
    simp[fillA] at h
    subst h
    exact⟨cur,by simp[Instr.fill],hc⟩
  | (i,v)::rest,[],cs,cur,cs',hl,_,_,_,_=>by simp at hl
  | (i,v)::rest,(i',x)::pv,cs,cur,cs',hl,hr,hs,hc,h=>by
    obtain ⟨e1,e2⟩:=hr 0 (i,v) (i',x) rfl rfl
    simp only at e1 e2
    subst e1
    simp only[fillA] at h
    cases hp:place i with
    | none=>simp[hp] at h
    | some os =>
      obtain ⟨off,size⟩:=os
      simp only[hp] at h
      split at h
      · rename_i hcond
        obtain ⟨h1,h2⟩:=hcond
        obtain ⟨g1,g2,g3⟩:=cells_rel e2 (hs (i,v) (by simp))
        have hsz:x.cells.size=size:=by rw[g1,h1]
        obtain ⟨hcs,hcr⟩:=hc
        have hfit:off+0+x.cells.toList.length≤cur.size:=by simp[hsz,hcs];omega
        obtain ⟨f1,f2⟩:=foldl_put x.cells.toList 0 off cur hfit
        have hnew:CellsR (RelV σ.objs γ.w γ.Z γ.blk) (setCells cs off (cellsOf v)) (x.cells.zipIdx.foldl (fun cs (c,j)=>cs.setIfInBounds (off+j) c) cur):=by
          rw[fill_foldl]
          refine⟨by rw[f1,setCells_length];exact hcs,fun j y hj=>?_⟩
          rw[setCells_get _ _ _ (by rw[h1];exact h2)] at hj
          rw[f2 j]
          simp only[Nat.add_zero,Array.length_toList,hsz]
          rw[h1] at hj
          by_cases hin:off≤j∧j<off+size
          · rw[if_pos hin] at hj
            rw[if_pos hin]
            have:=g2 _ _ hj
            simpa [List.getD_eq_getElem?_getD,Array.getD_eq_getD_getElem?] using this
          · rw[if_neg hin] at hj
            rw[if_neg hin]
            exact hcr j y hj
        obtain ⟨cur',k1,k2⟩:=fill_rel rest pv _ _ cs' (by simpa using hl) (fun j p q hp hq=>hr (j+1) p q (by simpa using hp) (by simpa using hq)) (fun p hp=>hs p (by simp[hp])) hnew h
        refine⟨cur',?_,k2⟩
        simp only[Instr.fill,hp]
        rw[if_neg ?_]
        · exact k1
        · simp[hsz,hcs];omega
      · simp at h
theorem lits_rel {os:List Ob} {w:World} {Z:Nat→Prop} {blk:Blk} (z:List Value):CellsR (RelV os w Z blk) (z.map .lit) z.toArray:=by
  refine⟨by simp,fun j x hx=>?_⟩
  simp only[List.getElem?_map] at hx
  cases hj:z[j]? with
  | none=>simp[hj] at hx
  | some y =>
    simp[hj] at hx
    subst hx
    simp[Array.getD_eq_getD_getElem?,hj]
    exact .lit y
theorem parts_rel {σ:St} {γ:Cx} (h:Sim σ γ) {a:Act} (ha:γ.tmps=a.tmps) (parts:Array (Nat × Operand)) :
    (parts.toList.map fun p=>(p.1,ev σ p.2)).length=(parts.map fun (i,x)=>(i,a.eval x)).toList.length ∧
    ∀ (j:Nat) (p:Nat × AV) (q:Nat × Value),(parts.toList.map fun p=>(p.1,ev σ p.2))[j]?=some p→(parts.map fun (i,x)=>(i,a.eval x)).toList[j]?=some q→p.1=q.1∧RelV σ.objs γ.w γ.Z γ.blk p.2 q.2:=by
  refine⟨by simp,fun j p q hp hq=>?_⟩
  simp only[Array.toList_map,List.getElem?_map] at hp hq
  cases hj:parts.toList[j]? with
  | none=>simp[hj] at hp
  | some y =>
    simp only[hj,Option.map_some,Option.some.injEq] at hp hq
    subst hp
    subst hq
    exact⟨rfl,ev_rel h ha y.2⟩
theorem build_sound {σ:St} {γ:Cx} (h:Sim σ γ) {a:Act} (ha:γ.tmps=a.tmps) {t:TypeId} {parts:Array (Nat × Operand)} {z:List Value} (hk:(ty P t).kind=3) (hz:(ty P t).zero=some z) {cs:List AV}
    (hf:fillA (fun i=>((ty P t).flds[i]?).map fun f=>(f.1,f.2.2)) (z.map .lit) (parts.toList.map fun p=>(p.1,ev σ p.2))=some cs)
    (hs:(parts.toList.all fun p=>(cellsOf (ev σ p.2)).all scal)=true) (hp:((ty P t).flds.all fun f=>decide (0<f.2.2))=true) :
    ∃ cur,(Instr.build t (parts.map fun (i,x)=>(i,a.eval x))).run P γ.w=.ok (.agg cur) γ.w∧RelV σ.objs γ.w γ.Z γ.blk (.agg cs) (.agg cur):=by
  obtain ⟨it,d,hi,hd,_,_,hzero⟩:=ty_info (P:=P) (t:=t) (by rw[hk];simp)
  obtain ⟨fs,hu,hfl⟩:=ty_struct hk
  rw[hzero] at hz
  cases hv:it.zero with
  | none=>simp[hv] at hz
  | some zv =>
    simp[hv] at hz
    have hzc:z.toArray=zv.cells:=by rw[← hz]
    obtain ⟨hl,hr⟩:=parts_rel h ha parts
    obtain ⟨cur,h1,h2⟩:=fill_rel (σ:=σ) (γ:=γ) _ _ _ _ cs hl hr (fun p hp=>by
      simp only[List.mem_map] at hp
      obtain ⟨q,hq,rfl⟩:=hp
      rw[List.all_eq_true] at hs
      exact hs q hq) (lits_rel z) hf
    refine⟨cur,run_build γ.w t _ cur ?_,.agg _ _ h2.1 h2.2⟩
    unfold Program.built
    rw[hi,hu]
    simp only[hv]
    have hplaces:∀ (l:List Field),(∀ f∈l,0<sizeT P f.type)→l.mapM (fun f=>(P.info? f.type).map fun i=>(f.offset,i.size))=some (l.map fun f=>(f.offset,sizeT P f.type)):=by
      intro l
      induction l with
      | nil=>intro _;simp
      | cons f l ih =>
        intro hl
        have h0:=hl f (by simp)
        unfold sizeT at h0
        cases hfi:P.info? f.type with
        | none=>simp[hfi] at h0
        | some i =>
          simp only[List.mapM_cons,hfi,Option.map_some,ih (fun g hg=>hl g (by simp[hg]))]
          simp[sizeT,hfi]
    rw[hplaces fs.toList (by
      intro f hf'
      rw[hfl] at hp
      simp only[List.all_map,List.all_eq_true] at hp
      have:=hp f hf'
      simpa using this)]
    simp only
    rw[← hzc]
    have:(fun (x:Nat)=>((fs.toList.map fun f=>(f.offset,sizeT P f.type)).toArray[x]?))=(fun (i:Nat)=>((ty P t).flds[i]?).map fun (f:Nat × Nat × Nat)=>(f.1,f.2.2)):=by
      funext i
      rw[hfl]
      simp
      cases fs[i]?<;>simp
    rw[this]
    exact h1
theorem build_soundA {σ:St} {γ:Cx} (h:Sim σ γ) {a:Act} (ha:γ.tmps=a.tmps) {t:TypeId} {parts:Array (Nat × Operand)} {z:List Value} (hk:(ty P t).kind=2) (hz:(ty P t).zero=some z) {cs:List AV}
    (hf:fillA (fun i=>some (i * (ty P (ty P t).elem).size,(ty P (ty P t).elem).size)) (z.map .lit) (parts.toList.map fun p=>(p.1,ev σ p.2))=some cs)
    (hs:(parts.toList.all fun p=>(cellsOf (ev σ p.2)).all scal)=true) (hke:(ty P (ty P t).elem).kind≠99) :
    ∃ cur,(Instr.build t (parts.map fun (i,x)=>(i,a.eval x))).run P γ.w=.ok (.agg cur) γ.w∧RelV σ.objs γ.w γ.Z γ.blk (.agg cs) (.agg cur):=by
  obtain ⟨it,d,hi,hd,_,_,hzero⟩:=ty_info (P:=P) (t:=t) (by rw[hk];simp)
  have hu:=ty_array hk
  obtain ⟨ie,de,hie,_,hsize,_,_⟩:=ty_info hke
  rw[hzero] at hz
  cases hv:it.zero with
  | none=>simp[hv] at hz
  | some zv =>
    simp[hv] at hz
    have hzc:z.toArray=zv.cells:=by rw[← hz]
    obtain ⟨hl,hr⟩:=parts_rel h ha parts
    obtain ⟨cur,h1,h2⟩:=fill_rel (σ:=σ) (γ:=γ) _ _ _ _ cs hl hr (fun p hp=>by
      simp only[List.mem_map] at hp
      obtain ⟨q,hq,rfl⟩:=hp
      rw[List.all_eq_true] at hs
      exact hs q hq) (lits_rel z) hf
    refine⟨cur,run_build γ.w t _ cur ?_,.agg _ _ h2.1 h2.2⟩
    unfold Program.built
    rw[hi,hu]
    simp only[hv,hie]
    rw[← hzc,← hsize]
    exact h1
theorem toRows_length (sz:Nat):∀ (n:Nat) (cs:List AV),(toRows sz n cs).length=n
  | 0,_=>rfl
  | n+1,cs=>by simp[toRows,toRows_length sz n]
theorem toRows_rows (sz:Nat):∀ (n:Nat) (cs:List AV),n * sz≤cs.length→∀ row∈toRows sz n cs,row.length=sz
  | 0,_,_,row,h=>by simp[toRows] at h
  | n+1,cs,hl,row,h=>by
    rw[Nat.add_mul] at hl
    simp only[toRows,List.mem_cons] at h
    rcases h with rfl | h
    · simp;omega
    · exact toRows_rows sz n (cs.drop sz) (by simp;omega) row h
theorem toRows_cell (sz:Nat):∀ (n:Nat) (cs:List AV) (r c:Nat) (v:AV),cellAt (toRows sz n cs) r c=some v→cs[r * sz+c]?=some v
  | 0,_,r,c,v,h=>by simp[toRows,cellAt] at h
  | n+1,cs,0,c,v,h=>by
    simp only[toRows,cellAt,List.getElem?_cons_zero,Option.bind_some,List.getElem?_take] at h
    split at h
    · simpa using h
    · simp at h
  | n+1,cs,r+1,c,v,h=>by
    have h':cellAt (toRows sz n (cs.drop sz)) r c=some v:=by simpa [toRows,cellAt] using h
    have:=toRows_cell sz n (cs.drop sz) r c v h'
    rw[List.getElem?_drop] at this
    rw[Nat.add_mul]
    have e:r * sz+1 * sz+c=sz+(r * sz+c):=by omega
    rw[e]
    exact this
theorem zeros_rel {os:List Ob} {w:World} {Z:Nat→Prop} {blk:Blk} (z:List Value) (n m:Nat) (hm:m=n * z.length) (hz:0<z.length) :
    CellsR (RelV os w Z blk) ((List.range n).flatMap fun _=>z.map .lit) ((Array.range m).map (z.toArray[· % z.toArray.size]!)):=by
  subst hm
  have hlen:((List.range n).flatMap fun _=>z.map AV.lit).length=n * z.length:=by
    induction n with
    | zero=>simp
    | succ n ih=>rw[List.range_succ,List.flatMap_append,List.length_append,ih];simp[Nat.add_mul]
  refine⟨by simp[hlen],fun j x hx=>?_⟩
  have hj:j<n * z.length:=by rw[← hlen];exact (List.getElem?_eq_some_iff.1 hx).1
  have key:∀ (n j:Nat),j<n * z.length→((List.range n).flatMap fun _=>z.map AV.lit)[j]?=some (.lit (z[j % z.length]'(Nat.mod_lt _ hz))):=by
    intro n
    induction n with
    | zero=>intro j hj;simp at hj
    | succ n ih =>
      intro j hj
      have hln:((List.range n).flatMap fun _=>z.map AV.lit).length=n * z.length:=by
        clear ih hj hx hlen
        induction n with
        | zero=>simp
        | succ n ih=>rw[List.range_succ,List.flatMap_append,List.length_append,ih];simp[Nat.add_mul]
      rw[List.range_succ,List.flatMap_append]
      by_cases hjn:j<n * z.length
      · rw[List.getElem?_append_left (by rw[hln];exact hjn)]
        exact ih j hjn
      · rw[List.getElem?_append_right (by rw[hln];omega),hln]
        rw[Nat.add_mul] at hj
        have hlt:j - n * z.length<z.length:=by omega
        have hmod:j % z.length=j - n * z.length:=by
          have:j=(j - n * z.length)+n * z.length:=by omega
          rw[this,Nat.add_mul_mod_self_right,Nat.mod_eq_of_lt hlt]
          omega
        simp[hlt,hmod]
  rw[key n j hj] at hx
  simp at hx
  subst hx
  have hm:j % z.length<z.length:=Nat.mod_lt _ hz
  simp[Array.getD_eq_getD_getElem?,hj,hm]
  exact .lit _
end Go.Am

