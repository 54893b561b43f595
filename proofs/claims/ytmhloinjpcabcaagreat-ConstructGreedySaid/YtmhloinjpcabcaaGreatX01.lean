import Derived.Test.YtmhloinjpcabcaaGreatX00
set_option linter.unusedVariables false
set_option linter.unusedSimpArgs false
set_option linter.unnecessarySimpa false
set_option linter.unusedSectionVars false
set_option maxHeartbeats 64000000
set_option maxRecDepth 20000
namespace Go.Am
variable {P:Program}
def OpOut (o:Oper) (σ:St) (γ:Cx) (a:Act) (K:St→Prop) (r:Result Next):Prop :=
  ∃ n x w' σ' γ',r=.ok n w'∧(n=.value x∨(n=.skip∧x=Go.undef))∧K σ'∧Sim σ' γ'∧Fr σ.objs γ σ'.objs γ'∧γ'.w=w'∧γ'.tmps=(a.put o.dst x).tmps
theorem RelV.lit {os:List Ob} {w:World} {Z:Nat→Prop} {blk:Blk} (v:Value):RelV os w Z blk (.lit v) v:=.frz _ _ (.lit v)
theorem RelV.lit_inv {os:List Ob} {w:World} {Z:Nat→Prop} {blk:Blk} {v cv:Value} (h:RelV os w Z blk (.lit v) cv):cv=v:=by
  cases h with
  | frz _ _ h=>cases h;rfl
theorem RelV.tree_inv {os:List Ob} {w:World} {Z:Nat→Prop} {blk:Blk} {sz:Nat} {rows:List (List AV)} {cv:Value} (h:RelV os w Z blk (.tree sz rows) cv):TreeR w Z (.tree sz rows) cv:=by
  cases h with
  | frz _ _ h=>exact h
theorem RelV.litOf {os:List Ob} {w:World} {Z:Nat→Prop} {blk:Blk} (v:Value):RelV os w Z blk (litOf v) v:=by
  unfold Am.litOf
  split
  · rename_i cs
    refine .agg _ _ (by simp) (fun j x hx=>?_)
    simp only[List.getElem?_map,Array.getElem?_toList] at hx
    cases hj:cs[j]? with
    | none=>simp[hj] at hx
    | some y =>
      simp[hj] at hx
      subst hx
      simp[hj]
      exact .lit y
  · exact .lit v
theorem ev_rel {σ:St} {γ:Cx} (h:Sim σ γ) {a:Act} (ha:γ.tmps=a.tmps) (x:Operand):RelV σ.objs γ.w γ.Z γ.blk (ev σ x) (a.eval x):=by
  cases x with
  | tmp t=>have:=h.slots t;rw[ha] at this;exact this
  | const v=>exact .litOf v
  | global g=>exact .undef _
  | func f=>exact .fn f [] #[] rfl (fun j x hx=>by simp at hx)
theorem scal_one {os:List Ob} {w:World} {Z:Nat→Prop} {blk:Blk} {v:AV} {cv:Value} (h:RelV os w Z blk v cv) (hs:scal v=true):cv.oneCell'=true:=by
  cases h with
  | undef cv=>simp[scal] at hs
  | frz v cv h=>cases h<;>first|rfl|(simpa [scal] using hs)
  | taddr=>rfl
  | deadRef id sz off len cv h h1=>exact h1
  | deadPtr id r c cv h h1=>exact h1
  | ref=>rfl
  | refNil=>rfl
  | refEnd=>rfl
  | ptrV=>rfl
  | ptrA=>rfl
  | agg=>simp[scal] at hs
  | tup=>simp[scal] at hs
  | fn=>rfl
  | ifc=>rfl
  | mref=>rfl
  | deadM id cv h h1=>exact h1
theorem put_sim {σ:St} {γ:Cx} (h:Sim σ γ) {a:Act} (ha:γ.tmps=a.tmps) {dst:Option Tmp} (hd:∀ d,dst=some d→d<a.tmps.size) {v:AV} {cv:Value}
    (hv:RelV σ.objs γ.w γ.Z γ.blk v cv):Sim (σ.put dst v) { γ with tmps:=(a.put dst cv).tmps }:=by
  cases dst with
  | none =>
    have:({ γ with tmps:=(a.put none cv).tmps }:Cx)=γ:=by cases γ;simp_all [Act.put]
    rw[this]
    exact h
  | some d =>
    have:=h.put d (by rw[ha];exact hd d rfl) hv
    rw[ha] at this
    exact this
theorem objs_put (σ:St) (dst:Option Tmp) (v:AV):(σ.put dst v).objs=σ.objs:=by cases dst<;>rfl
theorem out_put {o:Oper} {σ:St} {γ:Cx} {a:Act} {K:St→Prop} (h:Sim σ γ) (ha:γ.tmps=a.tmps) (hd:∀ d,o.dst=some d→d<a.tmps.size) {v:AV} {cv:Value}
    (hv:RelV σ.objs γ.w γ.Z γ.blk v cv) (hK:K (σ.put o.dst v)) {r:Result Next} (hr:r=.ok (.value cv) γ.w):OpOut o σ γ a K r :=
  ⟨.value cv,cv,γ.w,σ.put o.dst v,{ γ with tmps:=(a.put o.dst cv).tmps },hr,.inl rfl,hK,put_sim h ha hd hv,by rw[objs_put];exact (Fr.refl _ _).put _,rfl,rfl⟩
theorem out_put' {o:Oper} {σ σ1:St} {γ γ1:Cx} {a:Act} {K:St→Prop} (hf:Fr σ.objs γ σ1.objs γ1) (h:Sim σ1 γ1) (ha:γ1.tmps=a.tmps) (hd:∀ d,o.dst=some d→d<a.tmps.size) {v:AV} {cv:Value}
    (hv:RelV σ1.objs γ1.w γ1.Z γ1.blk v cv) (hK:K (σ1.put o.dst v)) {r:Result Next} (hr:r=.ok (.value cv) γ1.w):OpOut o σ γ a K r :=
  ⟨.value cv,cv,γ1.w,σ1.put o.dst v,{ γ1 with tmps:=(a.put o.dst cv).tmps },hr,.inl rfl,hK,put_sim h ha hd hv,by rw[objs_put];exact hf.put _,rfl,rfl⟩
theorem out_skip {o:Oper} {σ σ1:St} {γ γ1:Cx} {a:Act} {K:St→Prop} (hf:Fr σ.objs γ σ1.objs γ1) (h:Sim σ1 γ1) (ha:γ1.tmps=a.tmps) (hd:∀ d,o.dst=some d→d<a.tmps.size)
    (hK:K (σ1.put o.dst .undef)) {r:Result Next} (hr:r=.ok .skip γ1.w):OpOut o σ γ a K r :=
  ⟨.skip,Go.undef,γ1.w,σ1.put o.dst .undef,{ γ1 with tmps:=(a.put o.dst Go.undef).tmps },hr,.inr ⟨rfl,rfl⟩,hK,put_sim h ha hd (.undef _),by rw[objs_put];exact hf.put _,rfl,rfl⟩
theorem wrap_in {k:IntKind} {n:Int} (h:k.min≤n∧n≤k.max):k.wrap n=n:=by
  cases k<;>simp[IntKind.min,IntKind.max,IntKind.signed,IntKind.bits] at h<;>simp[IntKind.wrap,IntKind.signed,IntKind.bits]<;>omega
theorem intW_sound {op:BinOp} {k:IntKind} {x y:Int} {K:Value→Prop} (h:intW op k x y K) (t:TypeId) (w:World) :
    ∃ v,(binOp op t (.int k x) (.int k y)).run P w=.ok v w∧K v:=by
  cases op<;>simp only[intW] at h
  case add=>exact⟨_,by simp[binOp,Op.intArith,wrap_in h.1],h.2⟩
  case sub=>exact⟨_,by simp[binOp,Op.intArith,wrap_in h.1],h.2⟩
  case mul=>exact⟨_,by simp[binOp,Op.intArith,wrap_in h.1],h.2⟩
  case quo =>
    refine⟨_,?_,h.2⟩
    obtain ⟨h0,hb,hm⟩:=h.1
    have hq:x.tdiv y=x / y:=Int.tdiv_eq_ediv_of_nonneg h0
    have hle:x / y≤x:=Int.ediv_le_self _ h0
    have hge:0≤x / y:=Int.ediv_nonneg h0 (by omega)
    have hw:k.wrap (x / y)=x / y:=wrap_in ⟨by cases k<;>simp[IntKind.min,IntKind.signed,IntKind.bits]<;>omega,by omega⟩
    have hne:¬ y=0:=by omega
    simp[binOp,Op.intDiv,hne,hq,hw]
  case rem=>exact⟨_,by simp[binOp,Op.intDiv,h.1],h.2⟩
  case and =>
    exact⟨_,by simp[binOp,Op.intBits,andK],h⟩
  case shr =>
    refine⟨_,?_,h.2⟩
    obtain ⟨h0,h1⟩:=h.1
    have:¬ y<0:=by omega
    have e:(2:Int) ^ y.toNat=((2 ^ y.toNat:Nat):Int):=by simp
    simp[binOp,Op.shift,this,Nat.min_eq_left h1]
    exact Int.fdiv_eq_ediv_of_nonneg _ (by rw[e];exact Int.natCast_nonneg _)
  case eql=>exact⟨_,by simp[binOp,Op.intCmp],h⟩
  case neq=>exact⟨_,by simp[binOp,Op.intCmp],h⟩
  case lss=>exact⟨_,by simp[binOp,Op.intCmp],h⟩
  case leq=>exact⟨_,by simp[binOp,Op.intCmp],h⟩
  case gtr=>exact⟨_,by simp[binOp,Op.intCmp],h⟩
  case geq=>exact⟨_,by simp[binOp,Op.intCmp],h⟩
theorem intsOf_map:∀ {cs:List AV} {as:List Int},intsOf cs=some as→cs=as.map fun a=>.lit (.int .i64 a)
  | [],as,h=>by simp[intsOf] at h;subst h;rfl
  | c::cs,as,h=>by
    unfold intsOf at h
    split at h
    · rename_i e;simp at e
    · rename_i a r e
      simp only[List.cons.injEq] at e
      obtain ⟨rfl,rfl⟩:=e
      simp only[Option.map_eq_some_iff] at h
      obtain ⟨as',h,rfl⟩:=h
      rw[intsOf_map h];rfl
    · simp at h
theorem agg_ints {os:List Ob} {w:World} {Z:Nat→Prop} {blk:Blk} {cs:List AV} {as:List Int} {cv:Value} (h:RelV os w Z blk (.agg cs) cv) (hi:intsOf cs=some as):cv=.agg (as.map (Value.int .i64)).toArray:=by
  have:=intsOf_map hi
  subst this
  cases h with
  | frz _ _ h=>cases h
  | agg _ cvs hs h =>
    congr 1
    refine Array.ext (by simpa using hs) (fun j h1 h2=>?_)
    have hj:j<as.length:=by simpa using h2
    have:=(h j (.lit (.int .i64 as[j])) (by simp[hj])).lit_inv
    rw[Array.getD_eq_getD_getElem?,Array.getElem?_eq_getElem h1] at this
    simpa using this
end Go.Am
namespace Go.Am
variable {P:Program}
theorem run_isAgg {t:TypeId} (h:(ty P t).kind≠99) (w:World):(isAgg t).run P w=.ok (ty P t).isAgg w:=by
  obtain ⟨i,d,hi,hd,_⟩:=ty_info h
  simp only[isAgg,Sem.run_bind,run_underlying hd,Result.andThen_ok]
  have:ty P t=ty P t:=rfl
  cases d<;>simp[ty,hi,hd,Ty.isAgg]
theorem run_sizeOf {t:TypeId} (h:(ty P t).kind≠99) (w:World):(sizeOf t).run P w=.ok (ty P t).size w:=by
  obtain ⟨i,d,hi,hd,hs,_⟩:=ty_info h
  simp[sizeOf,typeInfo,hi,hs]
theorem run_zero {t:TypeId} {z:List Value} (h:(ty P t).kind≠99) (hz:(ty P t).zero=some z) (w:World) :∃v,(zeroValue t).run P w=.ok v w∧v.cells=z.toArray:=by
  obtain ⟨i,d,hi,hd,_,_,h3⟩:=ty_info h
  rw[h3] at hz
  cases hv:i.zero with
  | none=>simp[hv] at hz
  | some v =>
    simp[hv] at hz
    refine⟨v,by simp[zeroValue,typeInfo,hi,hv],?_⟩
    rw[← hz]
theorem ptr_row {σ:St} {γ:Cx} (h:Sim σ γ) {id r c:Nat} {cv:Value} {row:List AV} (hv:RelV σ.objs γ.w γ.Z γ.blk (.ptr id r c) cv) (hrow:rowOf σ id r=some row) :
    ∃ b base cap cur t o,cv=.pointer (some ⟨b,base+c,none⟩)∧γ.blk id=some (b,o,cap)∧γ.w.heap[b]?=some (.cells cur t (0,0))∧base+row.length≤cur.size ∧
      (∀ j v,row[j]?=some v→RelV σ.objs γ.w γ.Z γ.blk v (cur.getD (base+j) Go.undef))∧Live σ.objs id ∧
      (∀ row' cur',row'.length=row.length→cur'.size=cur.size→(∀ j v,row'[j]?=some v→RelV σ.objs γ.w γ.Z γ.blk v (cur'.getD (base+j) Go.undef))→(∀ k,(k<base∨base+row.length≤k)→cur'.getD k Go.undef=cur.getD k Go.undef) →
        ∃ ob ob',σ.objs[id]?=some ob∧ob≠.gone∧ob.like ob'∧(setRowOf σ id r row') = { σ with objs:=σ.objs.set id ob' }∧ObNew σ.objs γ.w γ.Z γ.blk o cap cur' ob'):=by
  unfold rowOf at hrow
  cases ho:σ.objs[id]? with
  | none=>simp[ho] at hrow
  | some ob =>
    have hob:=h.obs id ob ho
    cases ob with
    | gone=>simp[ho] at hrow
    | mp ag L=>simp[ho] at hrow
    | var cells =>
      simp only[ho] at hrow
      split at hrow
      · rename_i hr0
        subst hr0
        simp at hrow
        subst hrow
        obtain ⟨b,cap,cur,t,h1,h2,h3,h4⟩:=hob
        have hcv:cv=.pointer (some ⟨b,c,none⟩):=by
          cases hv with
          | frz _ _ h=>cases h
          | deadPtr _ _ _ _ h=>rw[ho] at h;simp at h
          | ptrV _ _ b' cap' cells' h hb=>rw[h1] at hb;simp at hb;simp[hb.1]
          | ptrA _ _ _ sz b' o' cap' rows h hb=>rw[ho] at h;simp at h
        refine⟨b,0,cap,cur,t,0,by simpa using hcv,h1,h2,by omega,fun j v hj=>by simpa using h4 j v hj,⟨_,ho,by simp⟩,?_⟩
        intro row' cur' hl hs hrel _
        refine⟨.var cells,.var row',rfl,by simp,by simp[Ob.like,hl],by simp[setRowOf,ho],rfl,by omega,fun c v hc=>by simpa using hrel c v hc⟩
      · simp at hrow
    | arr sz rows =>
      simp only[ho] at hrow
      obtain ⟨hsz,hrl,hob⟩:=hob
      have hrlen:row.length=sz:=hrl row (List.mem_of_getElem? hrow)
      have hrlt:r<rows.length:=(List.getElem?_eq_some_iff.1 hrow).1
      rcases hob with ⟨_,he⟩ | ⟨b,o,cap,cur,t,h1,h2,h3,h4,h5,h6⟩
      · subst he;simp at hrow
      · have hcv:cv=.pointer (some ⟨b,o+(r * sz+c),none⟩):=by
          cases hv with
          | frz _ _ h=>cases h
          | deadPtr _ _ _ _ h=>rw[ho] at h;simp at h
          | ptrV _ _ b' cap' cells' h hb=>rw[ho] at h;simp at h
          | ptrA _ _ _ sz' b' o' cap' rows' h hb=>rw[ho] at h;simp at h;rw[h1] at hb;simp at hb;simp[hb.1,hb.2.1,h.1]
        have hmul:r * sz+sz≤cap * sz:=by
          have:(r+1) * sz≤cap * sz:=Nat.mul_le_mul_right _ (by omega)
          rw[Nat.add_mul] at this;omega
        refine⟨b,o+r * sz,cap,cur,t,o,by rw[hcv];simp[Nat.add_assoc],h1,h2,by omega,?_,⟨_,ho,by simp⟩,?_⟩
        · intro j v hj
          have:=h6 r j v (by simp[cellAt,hrow,hj])
          simpa [Nat.add_assoc] using this
        · intro row' cur' hl hs hrel hout
          refine⟨.arr sz rows,.arr sz (rows.set r row'),rfl,by simp,by simp[Ob.like],by simp[setRowOf,ho],hsz,?_,by omega,by simp[h4],h5,?_⟩
          · intro x hx
            rcases List.mem_or_eq_of_mem_set hx with hx | rfl
            · exact hrl x hx
            · omega
          · intro r' c' v hc
            by_cases hrr:r=r'
            · subst hrr
              simp only[cellAt,List.getElem?_set,if_true,hrlt] at hc
              simp at hc
              have:=hrel c' v hc
              simpa [Nat.add_assoc] using this
            · simp only[cellAt,List.getElem?_set,if_neg hrr] at hc
              have hold:=h6 r' c' v hc
              have hc':c'<sz:=by
                simp only[Option.bind_eq_some_iff] at hc
                obtain ⟨x,hx,hxc⟩:=hc
                have:=hrl x (List.mem_of_getElem? hx)
                have:=(List.getElem?_eq_some_iff.1 hxc).1
                omega
              rw[hout _ ?_]
              · exact hold
              · rcases Nat.lt_or_gt_of_ne hrr with hlt | hgt
                · right
                  have:(r+1) * sz≤r' * sz:=Nat.mul_le_mul_right _ (by omega)
                  rw[Nat.add_mul] at this;omega
                · left
                  have:(r'+1) * sz≤r * sz:=Nat.mul_le_mul_right _ (by omega)
                  rw[Nat.add_mul] at this;omega
theorem Addr.add_none (b o n:Nat):(⟨b,o,none⟩:Addr).add n=⟨b,o+n,none⟩:=by
  unfold Go.Addr.add;split<;>simp_all
theorem cell_getD {w:World} {b j:Nat} {cur:Array Value} {t:TypeId} {fr:Nat × Nat} (h:w.heap[b]?=some (.cells cur t fr)) (hj:j<cur.size):w.cell? ⟨b,j,none⟩=some (cur.getD j Go.undef):=by
  simp[World.cell?,h,hj,Array.getD_eq_getD_getElem?]
theorem run_loadVar_cells {w:World} {t:TypeId} (hk:(ty P t).kind≠99) (b o:Nat) (f:Nat→Value)
    (hc:∀ j,j<(if (ty P t).isAgg then (ty P t).size else 1)→w.cell? ⟨b,o+j,none⟩=some (f j)) :
    (loadVar t ⟨b,o,none⟩).run P w=.ok (if (ty P t).isAgg then .agg ((List.range (ty P t).size).map f).toArray else f 0) w:=by
  simp only[loadVar,Sem.run_bind,run_isAgg hk,Result.andThen_ok]
  by_cases ha:(ty P t).isAgg=true
  · simp only[ha,if_true,Sem.run_bind,run_sizeOf hk,Result.andThen_ok]
    rw[run_loadCells w ⟨b,o,none⟩ _ f (fun j hj=>by rw[Addr.add_none];exact hc j (by simpa [ha] using hj))]
    rfl
  · have hc0:=hc 0 (by simp[ha])
    simp only[Nat.add_zero] at hc0
    simp[ha,hc0]
end Go.Am
namespace Go.Am
variable {P:Program}
theorem setCells_length (cs:List AV):∀ (row:List AV) (c:Nat),(setCells row c cs).length=row.length:=by
  induction cs with
  | nil=>intro row c;rfl
  | cons v vs ih=>intro row c;simp[setCells,ih]
theorem setCells_get (cs:List AV):∀ (row:List AV) (c:Nat),c+cs.length≤row.length→∀ j,(setCells row c cs)[j]?=if c≤j∧j<c+cs.length then cs[j - c]? else row[j]?:=by
  induction cs with
  | nil=>intro row c _ j;simp[setCells];intro h1 h2;omega
  | cons v vs ih =>
    intro row c hl j
    simp only[List.length_cons] at hl
    simp only[setCells,List.length_cons]
    rw[ih (row.set c v) (c+1) (by simp;omega) j]
    by_cases h1:c+1≤j∧j<c+1+vs.length
    · rw[if_pos h1,if_pos (by omega)]
      have:j - c=(j - (c+1))+1:=by omega
      rw[this];simp
    · rw[if_neg h1]
      by_cases h2:j=c
      · subst h2
        rw[if_pos (by omega)]
        simp[show j<row.length by omega]
      · rw[if_neg (by omega),List.getElem?_set_ne (Ne.symm h2)]
theorem cells_rel {os:List Ob} {w:World} {Z:Nat→Prop} {blk:Blk} {v:AV} {cv:Value} (h:RelV os w Z blk v cv) (hs:(cellsOf v).all scal=true) :
    cv.cells.size=(cellsOf v).length∧(∀ j x,(cellsOf v)[j]?=some x→RelV os w Z blk x (cv.cells.getD j Go.undef))∧∀ c∈cv.cells,c.oneCell'=true:=by
  by_cases hag :∃cs,v=.agg cs
  · obtain ⟨cs,rfl⟩:=hag
    simp only[cellsOf] at hs ⊢
    cases h with
    | frz _ _ h=>cases h
    | agg _ cvs hsz hrel =>
      refine⟨hsz,hrel,?_⟩
      intro c hc
      simp only[Value.cells] at hc
      obtain ⟨j,hj,rfl⟩:=Array.mem_iff_getElem.1 hc
      have hx:cs[j]?=some cs[j]:=by simp[← hsz,hj]
      have:=hrel j _ hx
      have hg:cvs.getD j Go.undef=cvs[j]:=by simp[Array.getD_eq_getD_getElem?,hj]
      rw[hg] at this
      exact scal_one this (by rw[List.all_eq_true] at hs;exact hs _ (List.mem_of_getElem? hx))
  · have hc1:cellsOf v=[v]:=by
      unfold cellsOf;split
      · exact absurd ⟨_,rfl⟩ hag
      · rfl
    rw[hc1] at hs ⊢
    simp at hs
    have ho:=scal_one h hs
    have hcc:cv.cells = #[cv]:=by cases cv<;>first|rfl|simp[Value.oneCell'] at ho
    rw[hcc]
    refine⟨rfl,?_,by simp[ho]⟩
    intro j x hx
    cases j with
    | zero=>simp at hx;subst hx;simpa using h
    | succ j=>simp at hx
section
variable {o:Oper} {σ:St} {γ:Cx} {a:Act} {K:St→Prop}
theorem load_ptr (hs:Sim σ γ) {t:TypeId} (hk:(ty P t).kind≠99) {id r c:Nat} {cv:Value} (hv:RelV σ.objs γ.w γ.Z γ.blk (.ptr id r c) cv)
    {row:List AV} (hrow:rowOf σ id r=some row) {K:AV→Prop} (h:loadA (ty P t) row c K) :
    ∃ v cv',(Instr.loadAt t cv).run P γ.w=.ok cv' γ.w∧RelV σ.objs γ.w γ.Z γ.blk v cv'∧K v:=by
  obtain ⟨b,base,cap,cur,tt,o,rfl,hb,hheap,hsz,hrel,_,_⟩:=ptr_row hs hv hrow
  unfold loadA at h
  simp only[Instr.loadAt,Instr.sureAddr,Sem.run_bind,Sem.run_pure,Result.andThen_ok]
  by_cases hag:(ty P t).isAgg=true
  · rw[if_pos hag] at h
    refine⟨_,_,run_loadVar_cells hk b (base+c) (fun j=>cur.getD (base+c+j) Go.undef) ?_,?_,h.2⟩
    · intro j hj
      rw[if_pos hag] at hj
      exact cell_getD hheap (by omega)
    · rw[if_pos hag]
      refine .agg _ _ (by simp;omega) (fun j x hx=>?_)
      have hj:j<(ty P t).size:=by have:=(List.getElem?_eq_some_iff.1 hx).1;simp at this;omega
      rw[List.getElem?_take,if_pos hj,List.getElem?_drop] at hx
      have:=hrel _ _ hx
      simp[Array.getD_eq_getD_getElem?,hj]
      simpa [Nat.add_assoc,Array.getD_eq_getD_getElem?] using this
  · rw[if_neg hag] at h
    cases hc:row[c]? with
    | none=>simp[hc] at h
    | some v =>
      simp only[hc] at h
      have hcl:=(List.getElem?_eq_some_iff.1 hc).1
      refine⟨v,_,run_loadVar_cells hk b (base+c) (fun j=>cur.getD (base+c+j) Go.undef) ?_,?_,h⟩
      · intro j hj
        rw[if_neg hag] at hj
        exact cell_getD hheap (by omega)
      · rw[if_neg hag]
        exact hrel _ _ hc
theorem load_taddr (_hs:Sim σ γ) {t:TypeId} (hk:(ty P t).kind≠99) {cells:List AV} {cv:Value} (hv:RelV σ.objs γ.w γ.Z γ.blk (.taddr cells) cv)
    {K:AV→Prop} (h:loadA (ty P t) cells 0 K) :
    ∃ v cv',(Instr.loadAt t cv).run P γ.w=.ok cv' γ.w∧RelV σ.objs γ.w γ.Z γ.blk v cv'∧K v:=by
  cases hv with
  | frz _ _ h=>cases h
  | taddr _ b o f hz hc ht =>
  unfold loadA at h
  simp only[Instr.loadAt,Instr.sureAddr,Sem.run_bind,Sem.run_pure,Result.andThen_ok]
  by_cases hag:(ty P t).isAgg=true
  · rw[if_pos hag] at h
    have hlen:(ty P t).size≤cells.length:=by omega
    refine⟨_,_,run_loadVar_cells hk b o f ?_,?_,h.2⟩
    · intro j hj
      rw[if_pos hag] at hj
      exact hc j cells[j] (by simp)
    · rw[if_pos hag]
      refine .agg _ _ (by simp;omega) (fun j x hx=>?_)
      have hj:j<(ty P t).size:=by have:=(List.getElem?_eq_some_iff.1 hx).1;simp at this;omega
      rw[List.getElem?_take,if_pos hj,List.getElem?_drop] at hx
      simp at hx
      simp[Array.getD_eq_getD_getElem?,hj]
      exact .frz _ _ (ht j x hx)
  · rw[if_neg hag] at h
    cases hcc:cells[0]? with
    | none=>simp[hcc] at h
    | some v =>
      simp only[hcc] at h
      refine⟨v,_,run_loadVar_cells hk b o f ?_,?_,h⟩
      · intro j hj
        rw[if_neg hag] at hj
        have:j=0:=by omega
        subst this
        exact hc 0 v hcc
      · rw[if_neg hag]
        exact .frz _ _ (ht 0 v hcc)
theorem getD_splice (cur:Array Value) (p:Nat) (vs:List Value) (hp:p+vs.length≤cur.size) (k:Nat) :
    ((cur.toList.take p++vs++cur.toList.drop (p+vs.length)).toArray).getD k Go.undef=if p≤k∧k<p+vs.length then vs.getD (k - p) Go.undef else cur.getD k Go.undef:=by
  simp only[Array.getD_eq_getD_getElem?,List.getElem?_toArray,List.getD_eq_getElem?_getD]
  by_cases h1:k<p
  · rw[if_neg (by omega),List.append_assoc,List.getElem?_append_left (by simp;omega),List.getElem?_take,if_pos h1]
    simp
  · by_cases h2:k<p+vs.length
    · rw[if_pos (by omega),List.getElem?_append_left (by simp;omega),List.getElem?_append_right (by simp;omega)]
      simp;congr 3;omega
    · rw[if_neg (by omega),List.getElem?_append_right (by simp;omega)]
      simp;congr 3;omega
theorem setRow_size (w:World) (g:Nat) (cs:Array Value):(w.setRow g cs).heap.size=w.heap.size:=by simp[World.setRow]
theorem store_ptr (hs:Sim σ γ) {t:TypeId} (hk:(ty P t).kind≠99) {id r c:Nat} {cv xv:Value} (hv:RelV σ.objs γ.w γ.Z γ.blk (.ptr id r c) cv)
    {row:List AV} (hrow:rowOf σ id r=some row) {v:AV} (hx:RelV σ.objs γ.w γ.Z γ.blk v xv)
    (h:(cellsOf v).length=(ty P t).size∧c+(ty P t).size≤row.length∧(cellsOf v).all scal=true) :
    ∃ w',(Instr.storeAt t cv xv).run P γ.w=.ok () w'∧Sim (setRowOf σ id r (setCells row c (cellsOf v))) { γ with w:=w' }∧Fr σ.objs γ (setRowOf σ id r (setCells row c (cellsOf v))).objs { γ with w:=w' }:=by
  obtain ⟨b,base,cap,cur,tt,o,rfl,hb,hheap,hsz,hrel,hlv,hput⟩:=ptr_row hs hv hrow
  obtain ⟨h1,h2,h3⟩:=h
  obtain ⟨e1,e2,e3⟩:=cells_rel hx h3
  have hlen:xv.cells.toList.length=(ty P t).size:=by simp[e1,h1]
  have hrun:(Instr.storeAt t (.pointer (some ⟨b,base+c,none⟩)) xv).run P γ.w=.ok () (γ.w.setRow b (cur.toList.take (base+c)++xv.cells.toList++cur.toList.drop (base+c+xv.cells.toList.length)).toArray):=by
    have hst:=run_storeCells_at P b (base+c) tt xv.cells.toList 0 cur γ.w hheap (by rw[hlen];omega) (fun x hx=>e3 x (by simpa using hx))
    simp only[Nat.add_zero] at hst
    simp only[Instr.storeAt,Instr.sureAddr,Sem.run_bind,Sem.run_pure,Result.andThen_ok,storeVar,run_sizeOf hk]
    have:¬ (xv.cells.size≠(ty P t).size):=by rw[e1,h1];simp
    rw[if_neg this]
    simpa using hst
  obtain ⟨ob,ob',g1,g2,g3,g4,g5⟩:=hput (setCells row c (cellsOf v)) (cur.toList.take (base+c)++xv.cells.toList++cur.toList.drop (base+c+xv.cells.toList.length)).toArray
    (setCells_length _ _ _) (by simp[hlen];omega) (by
      intro j x hj
      rw[setCells_get _ _ _ (by rw[h1];exact h2)] at hj
      rw[getD_splice cur (base+c) xv.cells.toList (by rw[hlen];omega),hlen]
      by_cases hin:c≤j∧j<c+(cellsOf v).length
      · rw[if_pos hin] at hj
        rw[if_pos (by omega)]
        have:=e2 _ _ hj
        have e:base+j - (base+c)=j - c:=by omega
        rw[e]
        simpa [List.getD_eq_getElem?_getD,Array.getD_eq_getD_getElem?] using this
      · rw[if_neg hin] at hj
        rw[if_neg (by omega)]
        exact hrel j x hj) (by
      intro k hk'
      rw[getD_splice cur (base+c) xv.cells.toList (by rw[hlen];omega),hlen]
      rw[if_neg (by omega)])
  refine⟨_,hrun,?_,?_⟩
  · rw[g4]
    exact hs.write g1 g2 g3 hb (setRow_heap γ.w b cur _ tt _ hheap) (fun k hk=>setRow_other γ.w b k _ hk) (setRow_size _ _ _) g5
  · rw[g4]
    exact Fr.write ob' g1 g2 g3 hb (fun k hk=>setRow_other γ.w b k _ hk) (setRow_size _ _ _) rfl rfl rfl
end
end Go.Am
namespace Go.Am
variable {P:Program}
theorem Sim.pushNil {σ:St} {γ:Cx} (h:Sim σ γ) {sz:Nat} (hsz:0<sz) :
    Sim { σ with objs:=σ.objs++[.arr sz []] } { γ with blk:=updB γ.blk σ.objs.length none }:=by
  have hR:∀ v cv,RelV σ.objs γ.w γ.Z γ.blk v cv→RelV (σ.objs++[.arr sz []]) γ.w γ.Z (updB γ.blk σ.objs.length none) v cv:=fun v cv hv =>
    hv.mono (fun b hb=>⟨hb,rfl⟩) (fun i o ho=>by
      have hi:i<σ.objs.length:=(List.getElem?_eq_some_iff.1 ho).1
      have ho':(σ.objs++[.arr sz []])[i]?=some o:=by rw[List.getElem?_append_left hi];exact ho
      by_cases hgo:o=.gone
      · subst hgo;exact .inl ho'
      · exact .inr ⟨by simp[updB,Nat.ne_of_lt hi],o,ho',Ob.like_refl hgo⟩)
  have hlive:∀ i b,updB γ.blk σ.objs.length none i=some b→Live (σ.objs++[.arr sz []]) i→Live σ.objs i∧γ.blk i=some b:=by
    rintro i b hb ⟨o,ho,hgo⟩
    simp only[updB] at hb
    split at hb
    · simp at hb
    · rename_i hne
      have hi:i<σ.objs.length:=by have:=(List.getElem?_eq_some_iff.1 ho).1;simp at this;omega
      rw[List.getElem?_append_left hi] at ho
      exact⟨⟨o,ho,hgo⟩,hb⟩
  refine⟨fun k=>hR _ _ (h.slots k),?_,?_,?_,h.zlt⟩
  · intro i o ho
    rcases Nat.lt_or_ge i σ.objs.length with hi | hi
    · rw[List.getElem?_append_left hi] at ho
      exact (h.obs i o ho).mono hR (by simp[updB,Nat.ne_of_lt hi]) (fun _ _ _ _=>rfl)
    · have hi':i=σ.objs.length:=by have:=(List.getElem?_eq_some_iff.1 ho).1;simp at this;omega
      subst hi'
      simp at ho
      subst ho
      exact⟨hsz,by simp,.inl ⟨by simp[updB],rfl⟩⟩
  · intro i j b o c o' c' hi hj hbi hbj
    obtain ⟨hi1,hi2⟩:=hlive i _ hbi hi
    obtain ⟨hj1,hj2⟩:=hlive j _ hbj hj
    exact h.inj i j b o c o' c' hi1 hj1 hi2 hj2
  · rintro b ⟨i,o,c,hi,hb⟩
    obtain ⟨hi1,hi2⟩:=hlive i _ hb hi
    exact h.nz b ⟨i,o,c,hi1,hi2⟩
theorem Fr.pushNil (os:List Ob) (γ:Cx) (sz:Nat):Fr os γ (os++[.arr sz []]) { γ with blk:=updB γ.blk os.length none } where
  eos:=rfl
  tape:=rfl
  output:=rfl
  size:=Nat.le_refl _
  keep:=fun _ _ _=>rfl
  z0:=fun _ h=>h
  z1:=fun _ h=>.inl h
  own:=by
    rintro b ⟨i,o,c,⟨x,hx,hgx⟩,hb⟩
    simp only[updB] at hb
    split at hb
    · simp at hb
    · have hi:i<os.length:=by have:=(List.getElem?_eq_some_iff.1 hx).1;simp at this;omega
      rw[List.getElem?_append_left hi] at hx
      exact .inl ⟨i,o,c,⟨x,hx,hgx⟩,hb⟩
  len:=by simp
  old:=by
    rintro i hi ⟨x,hx,hgx⟩
    have hx0:=hx
    rw[List.getElem?_append_left hi] at hx
    exact⟨by simp[updB,Nat.ne_of_lt hi],x,x,hx,hx0,Ob.like_refl hgx⟩
theorem Sim.reown {σ:St} {γ:Cx} (h:Sim σ γ) {id:Nat} {ob ob':Ob} (ho:σ.objs[id]?=some ob) (hg:ob≠.gone) {b o cap o' cap':Nat} (hb:γ.blk id=some (b,o,cap))
    {w':World} {cur:Array Value} {t:TypeId} (hw:w'.heap[b]?=some (.cells cur t (0,0))) (hoth:∀ k,k≠b→w'.heap[k]?=γ.w.heap[k]?) (hsz:w'.heap.size=γ.w.heap.size)
    (hob:ObNew σ.objs γ.w γ.Z γ.blk o' cap' cur ob') :
    Sim { σ with objs:=σ.objs.set id .gone++[ob'] } { γ with w:=w',blk:=updB γ.blk σ.objs.length (some (b,o',cap')) }:=by
  have hid:id<σ.objs.length:=(List.getElem?_eq_some_iff.1 ho).1
  have hlv:Live σ.objs id:=⟨ob,ho,hg⟩
  have hR:∀ v cv,RelV σ.objs γ.w γ.Z γ.blk v cv→RelV (σ.objs.set id .gone++[ob']) w' γ.Z (updB γ.blk σ.objs.length (some (b,o',cap'))) v cv:=fun v cv hv =>
    hv.mono (fun z hz=>⟨hz,hoth z (fun e=>h.nz b ⟨id,o,cap,hlv,hb⟩ (e ▸ hz))⟩) (fun i x hx=>by
      have hi:i<σ.objs.length:=(List.getElem?_eq_some_iff.1 hx).1
      rw[List.getElem?_append_left (by simpa using hi),List.getElem?_set]
      by_cases hii:id=i
      · left;simp[hii,hi]
      · rw[if_neg hii]
        by_cases hgo:x=.gone
        · subst hgo;exact .inl hx
        · exact .inr ⟨by simp[updB,Nat.ne_of_lt hi],x,hx,Ob.like_refl hgo⟩)
  have hlive:∀ i,Live (σ.objs.set id .gone++[ob']) i→i=σ.objs.length∨(i<σ.objs.length∧i≠id∧Live σ.objs i):=by
    rintro i ⟨x,hx,hgx⟩
    rcases Nat.lt_or_ge i σ.objs.length with hi | hi
    · right
      rw[List.getElem?_append_left (by simpa using hi),List.getElem?_set] at hx
      split at hx
      · simp at hx;exact absurd hx.symm hgx
      · rename_i hne
        exact⟨hi,Ne.symm hne,x,hx,hgx⟩
    · left
      have:=(List.getElem?_eq_some_iff.1 hx).1
      simp at this;omega
  refine⟨fun k=>hR _ _ (h.slots k),?_,?_,?_,fun z hz=>by rw[hsz];exact h.zlt z hz⟩
  · intro i x hx
    rcases Nat.lt_or_ge i σ.objs.length with hi | hi
    · rw[List.getElem?_append_left (by simpa using hi),List.getElem?_set] at hx
      split at hx
      · simp at hx;subst hx;trivial
      · rename_i hne
        by_cases hgo:x=.gone
        · subst hgo;trivial
        · refine (h.obs i x hx).mono hR (by simp[updB,Nat.ne_of_lt hi]) (fun z y c hz=>hoth z (fun e=>hne ?_))
          subst e
          exact h.inj id i z o cap y c hlv ⟨x,hx,hgo⟩ hb hz
    · have hi':i=σ.objs.length:=by have:=(List.getElem?_eq_some_iff.1 hx).1;simp at this;omega
      subst hi'
      rw[List.getElem?_append_right (by simp)] at hx
      simp at hx
      subst hx
      exact hob.obR (b:=b) (cap:=cap') hR (by simp[updB]) hw
  · intro i j z y c y' c' hi hj hbi hbj
    simp only[updB] at hbi hbj
    rcases hlive i hi with rfl | ⟨hil,hine,hi'⟩<;>rcases hlive j hj with rfl | ⟨hjl,hjne,hj'⟩
    · rfl
    · rw[if_pos rfl] at hbi
      rw[if_neg (Nat.ne_of_lt hjl)] at hbj
      simp at hbi
      rw[← hbi.1] at hbj
      exact absurd (h.inj j id b y' c' o cap hj' hlv hbj hb) hjne
    · rw[if_pos rfl] at hbj
      rw[if_neg (Nat.ne_of_lt hil)] at hbi
      simp at hbj
      rw[← hbj.1] at hbi
      exact absurd (h.inj i id b y c o cap hi' hlv hbi hb) hine
    · rw[if_neg (Nat.ne_of_lt hil)] at hbi
      rw[if_neg (Nat.ne_of_lt hjl)] at hbj
      exact h.inj i j z y c y' c' hi' hj' hbi hbj
  · rintro z ⟨i,y,c,hi,hz⟩ hzz
    simp only[updB] at hz
    rcases hlive i hi with rfl | ⟨hil,hine,hi'⟩
    · rw[if_pos rfl] at hz
      simp at hz
      rw[← hz.1] at hzz
      exact h.nz b ⟨id,o,cap,hlv,hb⟩ hzz
    · rw[if_neg (Nat.ne_of_lt hil)] at hz
      exact h.nz z ⟨i,y,c,hi',hz⟩ hzz
theorem Fr.reown {σ:St} {γ:Cx} {id:Nat} {ob:Ob} (ob':Ob) (ho:σ.objs[id]?=some ob) (hg:ob≠.gone) {b o cap o' cap':Nat} (hb:γ.blk id=some (b,o,cap))
    {w':World} (hoth:∀ k,k≠b→w'.heap[k]?=γ.w.heap[k]?) (hsz:w'.heap.size=γ.w.heap.size) (h1:w'.os=γ.w.os) (h2:w'.tape=γ.w.tape) (h3:w'.output=γ.w.output) :
    Fr σ.objs γ (σ.objs.set id .gone++[ob']) { γ with w:=w',blk:=updB γ.blk σ.objs.length (some (b,o',cap')) } where
  eos:=h1
  tape:=h2
  output:=h3
  size:=by simp[hsz]
  keep:=fun z _ hno=>hoth z (fun e=>hno ⟨id,o,cap,⟨ob,ho,hg⟩,e ▸ hb⟩)
  z0:=fun _ h=>h
  z1:=fun _ h=>.inl h
  own:=by
    rintro z ⟨i,y,c,⟨x,hx,hgx⟩,hz⟩
    simp only[updB] at hz
    split at hz
    · simp at hz
      left
      exact⟨id,o,cap,⟨ob,ho,hg⟩,by rw[hb,hz.1]⟩
    · have hi:i<σ.objs.length:=by have:=(List.getElem?_eq_some_iff.1 hx).1;simp at this;omega
      rw[List.getElem?_append_left (by simpa using hi),List.getElem?_set] at hx
      split at hx
      · split at hx<;>simp at hx;exact absurd hx.symm hgx
      · exact .inl ⟨i,y,c,⟨x,hx,hgx⟩,hz⟩
  len:=by simp
  old:=by
    rintro i hi ⟨x,hx,hgx⟩
    have hx0:=hx
    rw[List.getElem?_append_left (by simpa using hi),List.getElem?_set] at hx
    split at hx
    · split at hx<;>simp at hx;exact absurd hx.symm hgx
    · exact⟨by simp[updB,Nat.ne_of_lt hi],x,x,hx,hx0,Ob.like_refl hgx⟩
theorem src_cells {σ:St} {γ:Cx} (h:Sim σ γ) {x:AV} {cv:Value} (hv:RelV σ.objs γ.w γ.Z γ.blk x cv) {sz:Nat} (hsz:0<sz) {src:List (List AV)} (hs:srcRows σ x=some (sz,src)) :
    ∃ ad c,∃ g:Nat→Value,cv=.slice ad src.length c∧(∀ row∈src,row.length=sz)∧(0<src.length→∃ b o,ad=some ⟨b,o,none⟩∧∀ j,j<src.length * sz→γ.w.cell? ⟨b,o+j,none⟩=some (g j)) ∧
      ∀ r c v,cellAt src r c=some v→RelV σ.objs γ.w γ.Z γ.blk v (g (r * sz+c)):=by
  cases x with
  | tree sz' rows =>
    simp[srcRows] at hs
    obtain ⟨rfl,rfl⟩:=hs
    cases hv.tree_inv with
    | nil _ cap a=>exact⟨a,cap,fun _=>Go.undef,rfl,by simp,by simp,by simp[cellAt]⟩
    | tree _ _ b o cap f hz hr hcap hc ht =>
      refine⟨_,cap,fun j=>f (j / sz') (j % sz'),rfl,hr,fun hlen=>⟨b,o,rfl,?_⟩,?_⟩
      · intro j hj
        have h1:j / sz'<rows.length:=Nat.div_lt_of_lt_mul (by rw[Nat.mul_comm];exact hj)
        have h2:j % sz'<sz':=Nat.mod_lt _ hsz
        have hrl:(rows[j / sz']).length=sz':=hr _ (List.getElem_mem h1)
        have:=hc (j / sz') (j % sz') ((rows[j / sz'])[j % sz']'(by omega)) (by simp[cellAt,h1,h2,hrl])
        have e:j / sz' * sz'+j % sz'=j:=by rw[Nat.mul_comm];exact Nat.div_add_mod j sz'
        rw[e] at this
        exact this
      · intro r c v hcv
        have hcl:c<sz':=by
          simp only[cellAt,Option.bind_eq_some_iff] at hcv
          obtain ⟨y,hy,hyc⟩:=hcv
          have:=hr y (List.mem_of_getElem? hy)
          have:=(List.getElem?_eq_some_iff.1 hyc).1
          omega
        have e1:(r * sz'+c) / sz'=r:=by rw[Nat.mul_comm,Nat.mul_add_div hsz,Nat.div_eq_of_lt hcl];rfl
        have e2:(r * sz'+c) % sz'=c:=by rw[Nat.mul_comm,Nat.mul_add_mod,Nat.mod_eq_of_lt hcl]
        simp only[e1,e2]
        exact .frz _ _ (ht r c v hcv)
  | ref id sz' off len =>
    simp only[srcRows] at hs
    cases ho:σ.objs[id]? with
    | none=>simp[ho] at hs
    | some ob =>
      have hob:=h.obs id ob ho
      cases ob with
      | gone=>simp[ho] at hs
      | mp ag L=>simp[ho] at hs
      | var cells=>simp[ho] at hs
      | arr sz'' rows =>
        simp only[ho] at hs
        split at hs
        · rename_i he
          subst he
          simp at hs
          obtain ⟨rfl,rfl⟩:=hs
          obtain ⟨_,hrl,hob⟩:=hob
          cases hv with
          | frz _ _ h=>cases h
          | deadRef _ _ _ _ _ h=>rw[ho] at h;simp at h
          | refNil _ _ h hb =>
            rw[ho] at h;simp at h;subst h
            exact⟨none,0,fun _=>Go.undef,rfl,by simp,by simp,by simp[cellAt]⟩
          | refEnd _ _ _ b x bo rows' h hb hl =>
            exact⟨some ⟨b,x,none⟩,0,fun _=>Go.undef,by simp,by simp,by simp,by simp[cellAt]⟩
          | ref _ _ _ _ b o cap cap' rows' h hb hl hc hlc =>
            rw[ho] at h;simp at h
            subst h
            rcases hob with ⟨h1,_⟩ | ⟨b',o',cap'',cur,t,h1,h2,h3,h4,h5,h6⟩
            · rw[hb] at h1;simp at h1
            · rw[hb] at h1;simp at h1
              obtain ⟨rfl,rfl,rfl⟩:=h1
              have hlen:((rows.drop off).take len).length=len:=by simp;omega
              refine⟨_,cap',fun j=>cur.getD (o+off * sz''+j) Go.undef,by rw[hlen],?_,fun _=>⟨b,o+off * sz'',rfl,?_⟩,?_⟩
              · intro row hrow
                exact hrl row (List.mem_of_mem_drop (List.mem_of_mem_take hrow))
              · intro j hj
                rw[hlen] at hj
                refine cell_getD h2 ?_
                have:(off+len) * sz''≤cap * sz'':=Nat.mul_le_mul_right _ (by omega)
                rw[Nat.add_mul] at this
                omega
              · intro r c v hcv
                simp only[cellAt,List.getElem?_take,List.getElem?_drop] at hcv
                split at hcv
                · have:=h6 (off+r) c v hcv
                  rw[Nat.add_mul] at this
                  have e:o+(off * sz''+r * sz''+c)=o+off * sz''+(r * sz''+c):=by omega
                  rw[e] at this
                  exact this
                · simp at hcv
        · simp at hs
  | _=>simp[srcRows] at hs
end Go.Am

