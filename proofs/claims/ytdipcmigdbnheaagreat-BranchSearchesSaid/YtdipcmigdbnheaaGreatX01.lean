import Derived.Test.YtdipcmigdbnheaaGreatX00
set_option linter.unusedVariables false
set_option linter.unusedSimpArgs false
set_option linter.unnecessarySimpa false
set_option linter.unusedSectionVars false
set_option maxHeartbeats 64000000
set_option maxRecDepth 20000
open List renaming getElem?_map→bR,mem_of_getElem?→iy,getElem?_eq_some_iff→aY,getElem?_set→bO,range→bn,length_cons→dI,all_eq_true→eW,getElem?_take→tn,getElem?_drop→mX,getElem?_toArray→G1,getD_eq_getElem?_getD→ay,append_assoc→dj,getElem?_append_left→dH,getElem?_append_right→fA,getElem_mem→pU,mem_of_mem_drop→xM,mem_of_mem_take→qG,eq_nil_of_length_eq_zero→qF,mem_iff_getElem?→LV,mem_append→dh,size_toArray→By,length_map→eD,length_nil→pj,length_append→bU,length_take→eX,length_drop→rT,ext_getElem?→km,replicate→aW,eq_of_mem_replicate→L3,mem_map→bV,range_succ→vW,flatMap_append→po
open Option renaming map_eq_some_iff→zG,bind_eq_some_iff→xL,map_some→eC,some→dw
open Array renaming getD_eq_getD_getElem?→eY,length_toList→th
open Nat renaming mul_le_mul_right→nE,add_mul→fC,add_assoc→vX,add_zero→gU,ne_of_lt→lY,lt_or_ge→dG,mul_comm→rX,mod_lt→zH,div_add_mod→LX,mul_add_mod→LZ,mod_eq_of_lt→D4,eq_zero_or_pos→oh,zero_add→eK
namespace Go.Am
variable {P:Program}
def ym (o:Oper) (σ:St) (γ:Cx) (a:Act) (K:St→Prop) (r:Result Next):Prop :=
  ∃ n x w' σ' aI,r=.ok n w'∧(n=.value x∨(n=.skip∧x=Go.undef))∧K σ'∧bj σ' aI∧Fr σ.aa γ σ'.aa aI∧aI.w=w'∧aI.tmps=(a.put o.dst x).tmps
theorem aB.lit {os:List Ob} {w:World} {Z:Nat→Prop} {blk:gG} (v:Value):aB os w Z blk (.lit v) v:=.cI _ _ (.lit v)
theorem aB.cH {os:List Ob} {w:World} {Z:Nat→Prop} {blk:gG} {v cv:Value} (h:aB os w Z blk (.lit v) cv):cv=v:=by
  cases h with
  | cI _ _ h=>cases h;rfl
theorem aB.yg {os:List Ob} {w:World} {Z:Nat→Prop} {blk:gG} {sz:Nat} {rows:List (List AV)} {cv:Value} (h:aB os w Z blk (.tree sz rows) cv):gD w Z (.tree sz rows) cv:=by
  cases h with
  | cI _ _ h=>exact h
theorem aB.ei {os:List Ob} {w:World} {Z:Nat→Prop} {blk:gG} (v:Value):aB os w Z blk (ei v) v:=by
  unfold Am.ei
  split
  · rename_i cs
    refine .agg _ _ (by simp) (fun j x hx=>?_)
    simp only[bR,Array.getElem?_toList] at hx
    cases hj:cs[j]? with
    | none=>simp[hj] at hx
    | some y =>
      simp[hj] at hx
      subst hx
      simp[hj]
      exact .lit y
  · exact .lit v
theorem tI {σ:St} {γ:Cx} (h:bj σ γ) {a:Act} (ha:γ.tmps=a.tmps) (x:Operand):aB σ.aa γ.w γ.Z γ.blk (ev σ x) (a.eval x):=by
  cases x with
  | tmp t=>have:=h.aw t;rw[ha] at this;exact this
  | const v=>exact .ei v
  | global g=>exact .undef _
  | func f=>exact .fn f [] #[] rfl (fun j x hx=>by simp at hx)
theorem EM {os:List Ob} {w:World} {Z:Nat→Prop} {blk:gG} {v:AV} {cv:Value} (h:aB os w Z blk v cv) (hs:cm v=true):cv.oneCell'=true:=by
  cases h with
  | undef cv=>simp[cm] at hs
  | cI v cv h=>cases h<;>first|rfl|(simpa [cm] using hs)
  | dz=>rfl
  | kx id sz off len cv h h1=>exact h1
  | my id r c cv h h1=>exact h1
  | ref=>rfl
  | l7=>rfl
  | mz=>rfl
  | m7=>rfl
  | nL=>rfl
  | agg=>simp[cm] at hs
  | bM=>simp[cm] at hs
  | fn=>rfl
  | er=>rfl
  | fL=>rfl
  | qa id cv h h1=>exact h1
theorem qM {σ:St} {γ:Cx} (h:bj σ γ) {a:Act} (ha:γ.tmps=a.tmps) {dst:Option Tmp} (hd:∀ d,dst=some d→d<a.tmps.size) {v:AV} {cv:Value}
    (hv:aB σ.aa γ.w γ.Z γ.blk v cv):bj (σ.put dst v) { γ with tmps:=(a.put dst cv).tmps }:=by
  cases dst with
  | none =>
    have:({ γ with tmps:=(a.put none cv).tmps }:Cx)=γ:=by cases γ;simp_all [Act.put]
    rw[this]
    exact h
  | some d =>
    have:=h.put d (by rw[ha];exact hd d rfl) hv
    rw[ha] at this
    exact this
theorem qN (σ:St) (dst:Option Tmp) (v:AV):(σ.put dst v).aa=σ.aa:=by cases dst<;>rfl
theorem dm {o:Oper} {σ:St} {γ:Cx} {a:Act} {K:St→Prop} (h:bj σ γ) (ha:γ.tmps=a.tmps) (hd:∀ d,o.dst=some d→d<a.tmps.size) {v:AV} {cv:Value}
    (hv:aB σ.aa γ.w γ.Z γ.blk v cv) (hK:K (σ.put o.dst v)) {r:Result Next} (hr:r=.ok (.value cv) γ.w):ym o σ γ a K r :=
  ⟨.value cv,cv,γ.w,σ.put o.dst v,{ γ with tmps:=(a.put o.dst cv).tmps },hr,.inl rfl,hK,qM h ha hd hv,by rw[qN];exact (Fr.refl _ _).put _,rfl,rfl⟩
theorem z7 {o:Oper} {σ σ1:St} {γ γ1:Cx} {a:Act} {K:St→Prop} (hf:Fr σ.aa γ σ1.aa γ1) (h:bj σ1 γ1) (ha:γ1.tmps=a.tmps) (hd:∀ d,o.dst=some d→d<a.tmps.size) {v:AV} {cv:Value}
    (hv:aB σ1.aa γ1.w γ1.Z γ1.blk v cv) (hK:K (σ1.put o.dst v)) {r:Result Next} (hr:r=.ok (.value cv) γ1.w):ym o σ γ a K r :=
  ⟨.value cv,cv,γ1.w,σ1.put o.dst v,{ γ1 with tmps:=(a.put o.dst cv).tmps },hr,.inl rfl,hK,qM h ha hd hv,by rw[qN];exact hf.put _,rfl,rfl⟩
theorem H8 {o:Oper} {σ σ1:St} {γ γ1:Cx} {a:Act} {K:St→Prop} (hf:Fr σ.aa γ σ1.aa γ1) (h:bj σ1 γ1) (ha:γ1.tmps=a.tmps) (hd:∀ d,o.dst=some d→d<a.tmps.size)
    (hK:K (σ1.put o.dst .undef)) {r:Result Next} (hr:r=.ok .skip γ1.w):ym o σ γ a K r :=
  ⟨.skip,Go.undef,γ1.w,σ1.put o.dst .undef,{ γ1 with tmps:=(a.put o.dst Go.undef).tmps },hr,.inr ⟨rfl,rfl⟩,hK,qM h ha hd (.undef _),by rw[qN];exact hf.put _,rfl,rfl⟩
theorem wz {k:IntKind} {n:Int} (h:k.min≤n∧n≤k.max):k.wrap n=n:=by
  cases k<;>simp[IntKind.min,IntKind.max,IntKind.signed,IntKind.bits] at h<;>simp[IntKind.wrap,IntKind.signed,IntKind.bits]<;>omega
theorem aaO {op:BinOp} {k:IntKind} {x y:Int} {K:Value→Prop} (h:gj op k x y K) (t:TypeId) (w:World) :
    ∃ v,(binOp op t (.int k x) (.int k y)).run P w=.ok v w∧K v:=by
  cases op<;>simp only[gj] at h
  case add=>exact⟨_,by simp[binOp,Op.intArith,wz h.1],h.2⟩
  case sub=>exact⟨_,by simp[binOp,Op.intArith,wz h.1],h.2⟩
  case mul=>exact⟨_,by simp[binOp,Op.intArith,wz h.1],h.2⟩
  case quo =>
    refine⟨_,?_,h.2⟩
    obtain ⟨h0,hb,hm⟩:=h.1
    have hq:x.tdiv y=x / y:=Int.tdiv_eq_ediv_of_nonneg h0
    have hle:x / y≤x:=Int.ediv_le_self _ h0
    have l9:0≤x / y:=Int.ediv_nonneg h0 (by omega)
    have hw:k.wrap (x / y)=x / y:=wz ⟨by cases k<;>simp[IntKind.min,IntKind.signed,IntKind.bits]<;>omega,by omega⟩
    have b8:¬ y=0:=by omega
    simp[binOp,Op.intDiv,b8,hq,hw]
  case rem=>exact⟨_,by simp[binOp,Op.intDiv,h.1],h.2⟩
  case and =>
    exact⟨_,by simp[binOp,Op.intBits,Ab],h⟩
  case shr =>
    refine⟨_,?_,h.2⟩
    obtain ⟨h0,h1⟩:=h.1
    have:¬ y<0:=by omega
    have e:(2:Int) ^ y.toNat=((2 ^ y.toNat:Nat):Int):=by simp
    simp[binOp,Op.shift,this,Nat.min_eq_left h1]
    exact Int.fdiv_eq_ediv_of_nonneg _ (by rw[e];exact Int.natCast_nonneg _)
  case eql=>exact⟨_,by simp[binOp,Op.intCmp],h⟩
  case neq=>exact⟨_,by simp[binOp,Op.intCmp],h⟩
  case lss=>exact⟨_,by simp[binOp,Op.intCmp],h⟩
  case leq=>exact⟨_,by simp[binOp,Op.intCmp],h⟩
  case gtr=>exact⟨_,by simp[binOp,Op.intCmp],h⟩
  case geq=>exact⟨_,by simp[binOp,Op.intCmp],h⟩
theorem Oi:∀ {cs:List AV} {as:List Int},ow cs=some as→cs=as.map fun a=>.lit (.int .i64 a)
  | [],as,h=>by simp[ow] at h;subst h;rfl
  | c::cs,as,h=>by
    unfold ow at h
    split at h
    · rename_i e;simp at e
    · rename_i a r e
      simp only[List.cons.injEq] at e
      obtain ⟨rfl,rfl⟩:=e
      simp only[zG] at h
      obtain ⟨as',h,rfl⟩:=h
      rw[Oi h];rfl
    · simp at h
theorem HY {os:List Ob} {w:World} {Z:Nat→Prop} {blk:gG} {cs:List AV} {as:List Int} {cv:Value} (h:aB os w Z blk (.agg cs) cv) (hi:ow cs=some as):cv=.agg (as.map (Value.int .i64)).toArray:=by
  have:=Oi hi
  subst this
  cases h with
  | cI _ _ h=>cases h
  | agg _ a8 hs h =>
    congr 1
    refine Array.ext (by simpa using hs) (fun j h1 h2=>?_)
    have hj:j<as.length:=by simpa using h2
    have:=(h j (.lit (.int .i64 as[j])) (by simp[hj])).cH
    rw[eY,Array.getElem?_eq_getElem h1] at this
    simpa using this
end Go.Am
namespace Go.Am
variable {P:Program}
theorem Ib {t:TypeId} (h:(ty P t).kind≠99) (w:World):(isAgg t).run P w=.ok (ty P t).isAgg w:=by
  obtain ⟨i,d,hi,hd,_⟩:=sC h
  simp only[isAgg,Sem.run_bind,run_underlying hd,Result.andThen_ok]
  have:ty P t=ty P t:=rfl
  cases d<;>simp[ty,hi,hd,Ty.isAgg]
theorem run_sizeOf {t:TypeId} (h:(ty P t).kind≠99) (w:World):(sizeOf t).run P w=.ok (ty P t).size w:=by
  obtain ⟨i,d,hi,hd,hs,_⟩:=sC h
  simp[sizeOf,typeInfo,hi,hs]
theorem Oa {t:TypeId} {z:List Value} (h:(ty P t).kind≠99) (hz:(ty P t).zero=some z) (w:World) :∃v,(zeroValue t).run P w=.ok v w∧v.cells=z.toArray:=by
  obtain ⟨i,d,hi,hd,_,_,h3⟩:=sC h
  rw[h3] at hz
  cases hv:i.zero with
  | none=>simp[hv] at hz
  | some v =>
    simp[hv] at hz
    refine⟨v,by simp[zeroValue,typeInfo,hi,hv],?_⟩
    rw[← hz]
theorem EB {σ:St} {γ:Cx} (h:bj σ γ) {id r c:Nat} {cv:Value} {row:List AV} (hv:aB σ.aa γ.w γ.Z γ.blk (.ptr id r c) cv) (a6:rowOf σ id r=some row) :
    ∃ b base cap cur t o,cv=.pointer (some ⟨b,base+c,none⟩)∧γ.blk id=some (b,o,cap)∧γ.w.heap[b]?=some (.cells cur t (0,0))∧base+row.length≤cur.size ∧
      (∀ j v,row[j]?=some v→aB σ.aa γ.w γ.Z γ.blk v (cur.getD (base+j) Go.undef))∧Live σ.aa id ∧
      (∀ yu oI,yu.length=row.length→oI.size=cur.size→(∀ j v,yu[j]?=some v→aB σ.aa γ.w γ.Z γ.blk v (oI.getD (base+j) Go.undef))→(∀ k,(k<base∨base+row.length≤k)→oI.getD k Go.undef=cur.getD k Go.undef) →
        ∃ ob ob',σ.aa[id]?=some ob∧ob≠.gone∧ob.dU ob'∧(nG σ id r yu) = { σ with aa:=σ.aa.set id ob' }∧sw σ.aa γ.w γ.Z γ.blk o cap oI ob'):=by
  unfold rowOf at a6
  cases ho:σ.aa[id]? with
  | none=>simp[ho] at a6
  | some ob =>
    have cj:=h.eN id ob ho
    cases ob with
    | gone=>simp[ho] at a6
    | mp ag L=>simp[ho] at a6
    | var cells =>
      simp only[ho] at a6
      split at a6
      · rename_i yv
        subst yv
        simp at a6
        subst a6
        obtain ⟨b,cap,cur,t,h1,h2,h3,h4⟩:=cj
        have aZ:cv=.pointer (some ⟨b,c,none⟩):=by
          cases hv with
          | cI _ _ h=>cases h
          | my _ _ _ _ h=>rw[ho] at h;simp at h
          | m7 _ _ b' cap' cells' h hb=>rw[h1] at hb;simp at hb;simp[hb.1]
          | nL _ _ _ sz b' o' cap' rows h hb=>rw[ho] at h;simp at h
        refine⟨b,0,cap,cur,t,0,by simpa using aZ,h1,h2,by omega,fun j v hj=>by simpa using h4 j v hj,⟨_,ho,by simp⟩,?_⟩
        intro yu oI hl hs jJ _
        refine⟨.var cells,.var yu,rfl,by simp,by simp[Ob.dU,hl],by simp[nG,ho],rfl,by omega,fun c v hc=>by simpa using jJ c v hc⟩
      · simp at a6
    | arr sz rows =>
      simp only[ho] at a6
      obtain ⟨a5,bX,cj⟩:=cj
      have aiI:row.length=sz:=bX row (iy a6)
      have aaY:r<rows.length:=(aY.1 a6).1
      rcases cj with ⟨_,he⟩ | ⟨b,o,cap,cur,t,h1,h2,h3,h4,h5,h6⟩
      · subst he;simp at a6
      · have aZ:cv=.pointer (some ⟨b,o+(r * sz+c),none⟩):=by
          cases hv with
          | cI _ _ h=>cases h
          | my _ _ _ _ h=>rw[ho] at h;simp at h
          | m7 _ _ b' cap' cells' h hb=>rw[ho] at h;simp at h
          | nL _ _ _ cJ b' o' cap' gk h hb=>rw[ho] at h;simp at h;rw[h1] at hb;simp at hb;simp[hb.1,hb.2.1,h.1]
        have hmul:r * sz+sz≤cap * sz:=by
          have:(r+1) * sz≤cap * sz:=nE _ (by omega)
          rw[fC] at this;omega
        refine⟨b,o+r * sz,cap,cur,t,o,by rw[aZ];simp[vX],h1,h2,by omega,?_,⟨_,ho,by simp⟩,?_⟩
        · intro j v hj
          have:=h6 r j v (by simp[cellAt,a6,hj])
          simpa [vX] using this
        · intro yu oI hl hs jJ sE
          refine⟨.arr sz rows,.arr sz (rows.set r yu),rfl,by simp,by simp[Ob.dU],by simp[nG,ho],a5,?_,by omega,by simp[h4],h5,?_⟩
          · intro x hx
            rcases List.mem_or_eq_of_mem_set hx with hx | rfl
            · exact bX x hx
            · omega
          · intro r' c' v hc
            by_cases gH:r=r'
            · subst gH
              simp only[cellAt,bO,if_true,aaY] at hc
              simp at hc
              have:=jJ c' v hc
              simpa [vX] using this
            · simp only[cellAt,bO,if_neg gH] at hc
              have hold:=h6 r' c' v hc
              have kv:c'<sz:=by
                simp only[xL] at hc
                obtain ⟨x,hx,sF⟩:=hc
                have:=bX x (iy hx)
                have:=(aY.1 sF).1
                omega
              rw[sE _ ?_]
              · exact hold
              · rcases Nat.lt_or_gt_of_ne gH with aT | yw
                · right
                  have:(r+1) * sz≤r' * sz:=nE _ (by omega)
                  rw[fC] at this;omega
                · left
                  have:(r'+1) * sz≤r * sz:=nE _ (by omega)
                  rw[fC] at this;omega
theorem Addr.qW (b o n:Nat):(⟨b,o,none⟩:Addr).add n=⟨b,o+n,none⟩:=by
  unfold Go.Addr.add;split<;>simp_all
theorem zZ {w:World} {b j:Nat} {cur:Array Value} {t:TypeId} {fr:Nat × Nat} (h:w.heap[b]?=some (.cells cur t fr)) (hj:j<cur.size):w.cell? ⟨b,j,none⟩=some (cur.getD j Go.undef):=by
  simp[World.cell?,h,hj,eY]
theorem EN {w:World} {t:TypeId} (hk:(ty P t).kind≠99) (b o:Nat) (f:Nat→Value)
    (hc:∀ j,j<(if (ty P t).isAgg then (ty P t).size else 1)→w.cell? ⟨b,o+j,none⟩=some (f j)) :
    (loadVar t ⟨b,o,none⟩).run P w=.ok (if (ty P t).isAgg then .agg ((bn (ty P t).size).map f).toArray else f 0) w:=by
  simp only[loadVar,Sem.run_bind,Ib hk,Result.andThen_ok]
  by_cases ha:(ty P t).isAgg=true
  · simp only[ha,if_true,Sem.run_bind,run_sizeOf hk,Result.andThen_ok]
    rw[run_loadCells w ⟨b,o,none⟩ _ f (fun j hj=>by rw[Addr.qW];exact hc j (by simpa [ha] using hj))]
    rfl
  · have lD:=hc 0 (by simp[ha])
    simp only[gU] at lD
    simp[ha,lD]
end Go.Am
namespace Go.Am
variable {P:Program}
theorem H6 (cs:List AV):∀ (row:List AV) (c:Nat),(setCells row c cs).length=row.length:=by
  induction cs with
  | nil=>intro row c;rfl
  | cons v vs ih=>intro row c;simp[setCells,ih]
theorem Oj (cs:List AV):∀ (row:List AV) (c:Nat),c+cs.length≤row.length→∀ j,(setCells row c cs)[j]?=if c≤j∧j<c+cs.length then cs[j - c]? else row[j]?:=by
  induction cs with
  | nil=>intro row c _ j;simp[setCells];intro h1 h2;omega
  | cons v vs ih =>
    intro row c hl j
    simp only[dI] at hl
    simp only[setCells,dI]
    rw[ih (row.set c v) (c+1) (by simp;omega) j]
    by_cases h1:c+1≤j∧j<c+1+vs.length
    · rw[if_pos h1,if_pos (by omega)]
      have:j - c=(j - (c+1))+1:=by omega
      rw[this];simp
    · rw[if_neg h1]
      by_cases h2:j=c
      · subst h2
        rw[if_pos (by omega)]
        simp[show j<row.length by omega]
      · rw[if_neg (by omega),List.getElem?_set_ne (Ne.symm h2)]
theorem H3 {os:List Ob} {w:World} {Z:Nat→Prop} {blk:gG} {v:AV} {cv:Value} (h:aB os w Z blk v cv) (hs:(cellsOf v).all cm=true) :
    cv.cells.size=(cellsOf v).length∧(∀ j x,(cellsOf v)[j]?=some x→aB os w Z blk x (cv.cells.getD j Go.undef))∧∀ c∈cv.cells,c.oneCell'=true:=by
  by_cases j2 :∃cs,v=.agg cs
  · obtain ⟨cs,rfl⟩:=j2
    simp only[cellsOf] at hs ⊢
    cases h with
    | cI _ _ h=>cases h
    | agg _ a8 a5 jJ =>
      refine⟨a5,jJ,?_⟩
      intro c hc
      simp only[Value.cells] at hc
      obtain ⟨j,hj,rfl⟩:=Array.mem_iff_getElem.1 hc
      have hx:cs[j]?=some cs[j]:=by simp[← a5,hj]
      have:=jJ j _ hx
      have hg:a8.getD j Go.undef=a8[j]:=by simp[eY,hj]
      rw[hg] at this
      exact EM this (by rw[eW] at hs;exact hs _ (iy hx))
  · have ni:cellsOf v=[v]:=by
      unfold cellsOf;split
      · exact absurd ⟨_,rfl⟩ j2
      · rfl
    rw[ni] at hs ⊢
    simp at hs
    have ho:=EM h hs
    have aJ:cv.cells = #[cv]:=by cases cv<;>first|rfl|simp[Value.oneCell'] at ho
    rw[aJ]
    refine⟨rfl,?_,by simp[ho]⟩
    intro j x hx
    cases j with
    | zero=>simp at hx;subst hx;simpa using h
    | succ j=>simp at hx
section
variable {o:Oper} {σ:St} {γ:Cx} {a:Act} {K:St→Prop}
theorem HN (hs:bj σ γ) {t:TypeId} (hk:(ty P t).kind≠99) {id r c:Nat} {cv:Value} (hv:aB σ.aa γ.w γ.Z γ.blk (.ptr id r c) cv)
    {row:List AV} (a6:rowOf σ id r=some row) {K:AV→Prop} (h:l6 (ty P t) row c K) :
    ∃ v oG,(Instr.loadAt t cv).run P γ.w=.ok oG γ.w∧aB σ.aa γ.w γ.Z γ.blk v oG∧K v:=by
  obtain ⟨b,base,cap,cur,tt,o,rfl,hb,jI,a5,jJ,_,_⟩:=EB hs hv a6
  unfold l6 at h
  simp only[Instr.loadAt,Instr.sureAddr,Sem.run_bind,Sem.run_pure,Result.andThen_ok]
  by_cases j2:(ty P t).isAgg=true
  · rw[if_pos j2] at h
    refine⟨_,_,EN hk b (base+c) (fun j=>cur.getD (base+c+j) Go.undef) ?_,?_,h.2⟩
    · intro j hj
      rw[if_pos j2] at hj
      exact zZ jI (by omega)
    · rw[if_pos j2]
      refine .agg _ _ (by simp;omega) (fun j x hx=>?_)
      have hj:j<(ty P t).size:=by have:=(aY.1 hx).1;simp at this;omega
      rw[tn,if_pos hj,mX] at hx
      have:=jJ _ _ hx
      simp[eY,hj]
      simpa [vX,eY] using this
  · rw[if_neg j2] at h
    cases hc:row[c]? with
    | none=>simp[hc] at h
    | some v =>
      simp only[hc] at h
      have bL:=(aY.1 hc).1
      refine⟨v,_,EN hk b (base+c) (fun j=>cur.getD (base+c+j) Go.undef) ?_,?_,h⟩
      · intro j hj
        rw[if_neg j2] at hj
        exact zZ jI (by omega)
      · rw[if_neg j2]
        exact jJ _ _ hc
theorem aaM (_hs:bj σ γ) {t:TypeId} (hk:(ty P t).kind≠99) {cells:List AV} {cv:Value} (hv:aB σ.aa γ.w γ.Z γ.blk (.dz cells) cv)
    {K:AV→Prop} (h:l6 (ty P t) cells 0 K) :
    ∃ v oG,(Instr.loadAt t cv).run P γ.w=.ok oG γ.w∧aB σ.aa γ.w γ.Z γ.blk v oG∧K v:=by
  cases hv with
  | cI _ _ h=>cases h
  | dz _ b o f hz hc ht =>
  unfold l6 at h
  simp only[Instr.loadAt,Instr.sureAddr,Sem.run_bind,Sem.run_pure,Result.andThen_ok]
  by_cases j2:(ty P t).isAgg=true
  · rw[if_pos j2] at h
    have hlen:(ty P t).size≤cells.length:=by omega
    refine⟨_,_,EN hk b o f ?_,?_,h.2⟩
    · intro j hj
      rw[if_pos j2] at hj
      exact hc j cells[j] (by simp)
    · rw[if_pos j2]
      refine .agg _ _ (by simp;omega) (fun j x hx=>?_)
      have hj:j<(ty P t).size:=by have:=(aY.1 hx).1;simp at this;omega
      rw[tn,if_pos hj,mX] at hx
      simp at hx
      simp[eY,hj]
      exact .cI _ _ (ht j x hx)
  · rw[if_neg j2] at h
    cases aJ:cells[0]? with
    | none=>simp[aJ] at h
    | some v =>
      simp only[aJ] at h
      refine⟨v,_,EN hk b o f ?_,?_,h⟩
      · intro j hj
        rw[if_neg j2] at hj
        have:j=0:=by omega
        subst this
        exact hc 0 v aJ
      · rw[if_neg j2]
        exact .cI _ _ (ht 0 v aJ)
theorem Ca (cur:Array Value) (p:Nat) (vs:List Value) (hp:p+vs.length≤cur.size) (k:Nat) :
    ((cur.toList.take p++vs++cur.toList.drop (p+vs.length)).toArray).getD k Go.undef=if p≤k∧k<p+vs.length then vs.getD (k - p) Go.undef else cur.getD k Go.undef:=by
  simp only[eY,G1,ay]
  by_cases h1:k<p
  · rw[if_neg (by omega),dj,dH (by simp;omega),tn,if_pos h1]
    simp
  · by_cases h2:k<p+vs.length
    · rw[if_pos (by omega),dH (by simp;omega),fA (by simp;omega)]
      simp;congr 3;omega
    · rw[if_neg (by omega),fA (by simp;omega)]
      simp;congr 3;omega
theorem setRow_size (w:World) (g:Nat) (cs:Array Value):(w.setRow g cs).heap.size=w.heap.size:=by simp[World.setRow]
theorem aaN (hs:bj σ γ) {t:TypeId} (hk:(ty P t).kind≠99) {id r c:Nat} {cv xv:Value} (hv:aB σ.aa γ.w γ.Z γ.blk (.ptr id r c) cv)
    {row:List AV} (a6:rowOf σ id r=some row) {v:AV} (hx:aB σ.aa γ.w γ.Z γ.blk v xv)
    (h:(cellsOf v).length=(ty P t).size∧c+(ty P t).size≤row.length∧(cellsOf v).all cm=true) :
    ∃ w',(Instr.storeAt t cv xv).run P γ.w=.ok () w'∧bj (nG σ id r (setCells row c (cellsOf v))) { γ with w:=w' }∧Fr σ.aa γ (nG σ id r (setCells row c (cellsOf v))).aa { γ with w:=w' }:=by
  obtain ⟨b,base,cap,cur,tt,o,rfl,hb,jI,a5,jJ,oH,aaZ⟩:=EB hs hv a6
  obtain ⟨h1,h2,h3⟩:=h
  obtain ⟨e1,e2,e3⟩:=H3 hx h3
  have hlen:xv.cells.toList.length=(ty P t).size:=by simp[e1,h1]
  have eO:(Instr.storeAt t (.pointer (some ⟨b,base+c,none⟩)) xv).run P γ.w=.ok () (γ.w.setRow b (cur.toList.take (base+c)++xv.cells.toList++cur.toList.drop (base+c+xv.cells.toList.length)).toArray):=by
    have dV:=run_storeCells_at P b (base+c) tt xv.cells.toList 0 cur γ.w jI (by rw[hlen];omega) (fun x hx=>e3 x (by simpa using hx))
    simp only[gU] at dV
    simp only[Instr.storeAt,Instr.sureAddr,Sem.run_bind,Sem.run_pure,Result.andThen_ok,storeVar,run_sizeOf hk]
    have:¬ (xv.cells.size≠(ty P t).size):=by rw[e1,h1];simp
    rw[if_neg this]
    simpa using dV
  obtain ⟨ob,ob',g1,g2,g3,g4,g5⟩:=aaZ (setCells row c (cellsOf v)) (cur.toList.take (base+c)++xv.cells.toList++cur.toList.drop (base+c+xv.cells.toList.length)).toArray
    (H6 _ _ _) (by simp[hlen];omega) (by
      intro j x hj
      rw[Oj _ _ _ (by rw[h1];exact h2)] at hj
      rw[Ca cur (base+c) xv.cells.toList (by rw[hlen];omega),hlen]
      by_cases dE:c≤j∧j<c+(cellsOf v).length
      · rw[if_pos dE] at hj
        rw[if_pos (by omega)]
        have:=e2 _ _ hj
        have e:base+j - (base+c)=j - c:=by omega
        rw[e]
        simpa [ay,eY] using this
      · rw[if_neg dE] at hj
        rw[if_neg (by omega)]
        exact jJ j x hj) (by
      intro k aF
      rw[Ca cur (base+c) xv.cells.toList (by rw[hlen];omega),hlen]
      rw[if_neg (by omega)])
  refine⟨_,eO,?_,?_⟩
  · rw[g4]
    exact hs.write g1 g2 g3 hb (setRow_heap γ.w b cur _ tt _ jI) (fun k hk=>setRow_other γ.w b k _ hk) (setRow_size _ _ _) g5
  · rw[g4]
    exact Fr.write ob' g1 g2 g3 hb (fun k hk=>setRow_other γ.w b k _ hk) (setRow_size _ _ _) rfl rfl rfl
end
end Go.Am
namespace Go.Am
variable {P:Program}
theorem bj.yl {σ:St} {γ:Cx} (h:bj σ γ) {sz:Nat} (a5:0<sz) :
    bj { σ with aa:=σ.aa++[.arr sz []] } { γ with blk:=cK γ.blk σ.aa.length none }:=by
  have hR:∀ v cv,aB σ.aa γ.w γ.Z γ.blk v cv→aB (σ.aa++[.arr sz []]) γ.w γ.Z (cK γ.blk σ.aa.length none) v cv:=fun v cv hv =>
    hv.mono (fun b hb=>⟨hb,rfl⟩) (fun i o ho=>by
      have hi:i<σ.aa.length:=(aY.1 ho).1
      have cp:(σ.aa++[.arr sz []])[i]?=some o:=by rw[dH hi];exact ho
      by_cases bE:o=.gone
      · subst bE;exact .inl cp
      · exact .inr ⟨by simp[cK,lY hi],o,cp,Ob.jY bE⟩)
  have cM:∀ i b,cK γ.blk σ.aa.length none i=some b→Live (σ.aa++[.arr sz []]) i→Live σ.aa i∧γ.blk i=some b:=by
    rintro i b hb ⟨o,ho,bE⟩
    simp only[cK] at hb
    split at hb
    · simp at hb
    · rename_i b8
      have hi:i<σ.aa.length:=by have:=(aY.1 ho).1;simp at this;omega
      rw[dH hi] at ho
      exact⟨⟨o,ho,bE⟩,hb⟩
  refine⟨fun k=>hR _ _ (h.aw k),?_,?_,?_,h.iq⟩
  · intro i o ho
    rcases dG i σ.aa.length with hi | hi
    · rw[dH hi] at ho
      exact (h.eN i o ho).mono hR (by simp[cK,lY hi]) (fun _ _ _ _=>rfl)
    · have ax:i=σ.aa.length:=by have:=(aY.1 ho).1;simp at this;omega
      subst ax
      simp at ho
      subst ho
      exact⟨a5,by simp,.inl ⟨by simp[cK],rfl⟩⟩
  · intro i j b o c o' c' hi hj fX gA
    obtain ⟨Ic,pz⟩:=cM i _ fX hi
    obtain ⟨Cb,tJ⟩:=cM j _ gA hj
    exact h.inj i j b o c o' c' Ic Cb pz tJ
  · rintro b ⟨i,o,c,hi,hb⟩
    obtain ⟨Ic,pz⟩:=cM i _ hb hi
    exact h.nz b ⟨i,o,c,Ic,pz⟩
theorem Fr.yl (os:List Ob) (γ:Cx) (sz:Nat):Fr os γ (os++[.arr sz []]) { γ with blk:=cK γ.blk os.length none } where
  m5:=rfl
  tape:=rfl
  output:=rfl
  size:=Nat.le_refl _
  fV:=fun _ _ _=>rfl
  z0:=fun _ h=>h
  z1:=fun _ h=>.inl h
  own:=by
    rintro b ⟨i,o,c,⟨x,hx,dD⟩,hb⟩
    simp only[cK] at hb
    split at hb
    · simp at hb
    · have hi:i<os.length:=by have:=(aY.1 hx).1;simp at this;omega
      rw[dH hi] at hx
      exact .inl ⟨i,o,c,⟨x,hx,dD⟩,hb⟩
  len:=by simp
  kz:=by
    rintro i hi ⟨x,hx,dD⟩
    have hx0:=hx
    rw[dH hi] at hx
    exact⟨by simp[cK,lY hi],x,x,hx,hx0,Ob.jY dD⟩
theorem bj.Cc {σ:St} {γ:Cx} (h:bj σ γ) {id:Nat} {ob ob':Ob} (ho:σ.aa[id]?=some ob) (hg:ob≠.gone) {b o cap o' cap':Nat} (hb:γ.blk id=some (b,o,cap))
    {w':World} {cur:Array Value} {t:TypeId} (hw:w'.heap[b]?=some (.cells cur t (0,0))) (nQ:∀ k,k≠b→w'.heap[k]?=γ.w.heap[k]?) (a5:w'.heap.size=γ.w.heap.size)
    (cj:sw σ.aa γ.w γ.Z γ.blk o' cap' cur ob') :
    bj { σ with aa:=σ.aa.set id .gone++[ob'] } { γ with w:=w',blk:=cK γ.blk σ.aa.length (some (b,o',cap')) }:=by
  have cT:id<σ.aa.length:=(aY.1 ho).1
  have oH:Live σ.aa id:=⟨ob,ho,hg⟩
  have hR:∀ v cv,aB σ.aa γ.w γ.Z γ.blk v cv→aB (σ.aa.set id .gone++[ob']) w' γ.Z (cK γ.blk σ.aa.length (some (b,o',cap'))) v cv:=fun v cv hv =>
    hv.mono (fun z hz=>⟨hz,nQ z (fun e=>h.nz b ⟨id,o,cap,oH,hb⟩ (e ▸ hz))⟩) (fun i x hx=>by
      have hi:i<σ.aa.length:=(aY.1 hx).1
      rw[dH (by simpa using hi),bO]
      by_cases mA:id=i
      · left;simp[mA,hi]
      · rw[if_neg mA]
        by_cases bE:x=.gone
        · subst bE;exact .inl hx
        · exact .inr ⟨by simp[cK,lY hi],x,hx,Ob.jY bE⟩)
  have cM:∀ i,Live (σ.aa.set id .gone++[ob']) i→i=σ.aa.length∨(i<σ.aa.length∧i≠id∧Live σ.aa i):=by
    rintro i ⟨x,hx,dD⟩
    rcases dG i σ.aa.length with hi | hi
    · right
      rw[dH (by simpa using hi),bO] at hx
      split at hx
      · simp at hx;exact absurd hx.symm dD
      · rename_i b8
        exact⟨hi,Ne.symm b8,x,hx,dD⟩
    · left
      have:=(aY.1 hx).1
      simp at this;omega
  refine⟨fun k=>hR _ _ (h.aw k),?_,?_,?_,fun z hz=>by rw[a5];exact h.iq z hz⟩
  · intro i x hx
    rcases dG i σ.aa.length with hi | hi
    · rw[dH (by simpa using hi),bO] at hx
      split at hx
      · simp at hx;subst hx;trivial
      · rename_i b8
        by_cases bE:x=.gone
        · subst bE;trivial
        · refine (h.eN i x hx).mono hR (by simp[cK,lY hi]) (fun z y c hz=>nQ z (fun e=>b8 ?_))
          subst e
          exact h.inj id i z o cap y c oH ⟨x,hx,bE⟩ hb hz
    · have ax:i=σ.aa.length:=by have:=(aY.1 hx).1;simp at this;omega
      subst ax
      rw[fA (by simp)] at hx
      simp at hx
      subst hx
      exact cj.Ie (b:=b) (cap:=cap') hR (by simp[cK]) hw
  · intro i j z y c y' c' hi hj fX gA
    simp only[cK] at fX gA
    rcases cM i hi with rfl | ⟨jm,Ok,ax⟩<;>rcases cM j hj with rfl | ⟨jH,aa0,cq⟩
    · rfl
    · rw[if_pos rfl] at fX
      rw[if_neg (lY jH)] at gA
      simp at fX
      rw[← fX.1] at gA
      exact absurd (h.inj j id b y' c' o cap cq oH gA hb) aa0
    · rw[if_pos rfl] at gA
      rw[if_neg (lY jm)] at fX
      simp at gA
      rw[← gA.1] at fX
      exact absurd (h.inj i id b y c o cap ax oH fX hb) Ok
    · rw[if_neg (lY jm)] at fX
      rw[if_neg (lY jH)] at gA
      exact h.inj i j z y c y' c' ax cq fX gA
  · rintro z ⟨i,y,c,hi,hz⟩ nh
    simp only[cK] at hz
    rcases cM i hi with rfl | ⟨jm,Ok,ax⟩
    · rw[if_pos rfl] at hz
      simp at hz
      rw[← hz.1] at nh
      exact h.nz b ⟨id,o,cap,oH,hb⟩ nh
    · rw[if_neg (lY jm)] at hz
      exact h.nz z ⟨i,y,c,ax,hz⟩ nh
theorem Fr.Cc {σ:St} {γ:Cx} {id:Nat} {ob:Ob} (ob':Ob) (ho:σ.aa[id]?=some ob) (hg:ob≠.gone) {b o cap o' cap':Nat} (hb:γ.blk id=some (b,o,cap))
    {w':World} (nQ:∀ k,k≠b→w'.heap[k]?=γ.w.heap[k]?) (a5:w'.heap.size=γ.w.heap.size) (h1:w'.os=γ.w.os) (h2:w'.tape=γ.w.tape) (h3:w'.output=γ.w.output) :
    Fr σ.aa γ (σ.aa.set id .gone++[ob']) { γ with w:=w',blk:=cK γ.blk σ.aa.length (some (b,o',cap')) } where
  m5:=h1
  tape:=h2
  output:=h3
  size:=by simp[a5]
  fV:=fun z _ k7=>nQ z (fun e=>k7 ⟨id,o,cap,⟨ob,ho,hg⟩,e ▸ hb⟩)
  z0:=fun _ h=>h
  z1:=fun _ h=>.inl h
  own:=by
    rintro z ⟨i,y,c,⟨x,hx,dD⟩,hz⟩
    simp only[cK] at hz
    split at hz
    · simp at hz
      left
      exact⟨id,o,cap,⟨ob,ho,hg⟩,by rw[hb,hz.1]⟩
    · have hi:i<σ.aa.length:=by have:=(aY.1 hx).1;simp at this;omega
      rw[dH (by simpa using hi),bO] at hx
      split at hx
      · split at hx<;>simp at hx;exact absurd hx.symm dD
      · exact .inl ⟨i,y,c,⟨x,hx,dD⟩,hz⟩
  len:=by simp
  kz:=by
    rintro i hi ⟨x,hx,dD⟩
    have hx0:=hx
    rw[dH (by simpa using hi),bO] at hx
    split at hx
    · split at hx<;>simp at hx;exact absurd hx.symm dD
    · exact⟨by simp[cK,lY hi],x,x,hx,hx0,Ob.jY dD⟩
theorem Ol {σ:St} {γ:Cx} (h:bj σ γ) {x:AV} {cv:Value} (hv:aB σ.aa γ.w γ.Z γ.blk x cv) {sz:Nat} (a5:0<sz) {src:List (List AV)} (hs:nJ σ x=some (sz,src)) :
    ∃ ad c,∃ g:Nat→Value,cv=.slice ad src.length c∧(∀ row∈src,row.length=sz)∧(0<src.length→∃ b o,ad=some ⟨b,o,none⟩∧∀ j,j<src.length * sz→γ.w.cell? ⟨b,o+j,none⟩=some (g j)) ∧
      ∀ r c v,cellAt src r c=some v→aB σ.aa γ.w γ.Z γ.blk v (g (r * sz+c)):=by
  cases x with
  | tree cJ rows =>
    simp[nJ] at hs
    obtain ⟨rfl,rfl⟩:=hs
    cases hv.yg with
    | nil _ cap a=>exact⟨a,cap,fun _=>Go.undef,rfl,by simp,by simp,by simp[cellAt]⟩
    | tree _ _ b o cap f hz hr Cd hc ht =>
      refine⟨_,cap,fun j=>f (j / cJ) (j % cJ),rfl,hr,fun hlen=>⟨b,o,rfl,?_⟩,?_⟩
      · intro j hj
        have h1:j / cJ<rows.length:=Nat.div_lt_of_lt_mul (by rw[rX];exact hj)
        have h2:j % cJ<cJ:=zH _ a5
        have bX:(rows[j / cJ]).length=cJ:=hr _ (pU h1)
        have:=hc (j / cJ) (j % cJ) ((rows[j / cJ])[j % cJ]'(by omega)) (by simp[cellAt,h1,h2,bX])
        have e:j / cJ * cJ+j % cJ=j:=by rw[rX];exact LX j cJ
        rw[e] at this
        exact this
      · intro r c v aZ
        have bL:c<cJ:=by
          simp only[cellAt,xL] at aZ
          obtain ⟨y,hy,k8⟩:=aZ
          have:=hr y (iy hy)
          have:=(aY.1 k8).1
          omega
        have e1:(r * cJ+c) / cJ=r:=by rw[rX,Nat.mul_add_div a5,Nat.div_eq_of_lt bL];rfl
        have e2:(r * cJ+c) % cJ=c:=by rw[rX,LZ,D4 bL]
        simp only[e1,e2]
        exact .cI _ _ (ht r c v aZ)
  | ref id cJ off len =>
    simp only[nJ] at hs
    cases ho:σ.aa[id]? with
    | none=>simp[ho] at hs
    | some ob =>
      have cj:=h.eN id ob ho
      cases ob with
      | gone=>simp[ho] at hs
      | mp ag L=>simp[ho] at hs
      | var cells=>simp[ho] at hs
      | arr kq rows =>
        simp only[ho] at hs
        split at hs
        · rename_i he
          subst he
          simp at hs
          obtain ⟨rfl,rfl⟩:=hs
          obtain ⟨_,bX,cj⟩:=cj
          cases hv with
          | cI _ _ h=>cases h
          | kx _ _ _ _ _ h=>rw[ho] at h;simp at h
          | l7 _ _ h hb =>
            rw[ho] at h;simp at h;subst h
            exact⟨none,0,fun _=>Go.undef,rfl,by simp,by simp,by simp[cellAt]⟩
          | mz _ _ _ b x bo gk h hb hl =>
            exact⟨some ⟨b,x,none⟩,0,fun _=>Go.undef,by simp,by simp,by simp,by simp[cellAt]⟩
          | ref _ _ _ _ b o cap cap' gk h hb hl hc ic =>
            rw[ho] at h;simp at h
            subst h
            rcases cj with ⟨h1,_⟩ | ⟨b',o',BR,cur,t,h1,h2,h3,h4,h5,h6⟩
            · rw[hb] at h1;simp at h1
            · rw[hb] at h1;simp at h1
              obtain ⟨rfl,rfl,rfl⟩:=h1
              have hlen:((rows.drop off).take len).length=len:=by simp;omega
              refine⟨_,cap',fun j=>cur.getD (o+off * kq+j) Go.undef,by rw[hlen],?_,fun _=>⟨b,o+off * kq,rfl,?_⟩,?_⟩
              · intro row a6
                exact bX row (xM (qG a6))
              · intro j hj
                rw[hlen] at hj
                refine zZ h2 ?_
                have:(off+len) * kq≤cap * kq:=nE _ (by omega)
                rw[fC] at this
                omega
              · intro r c v aZ
                simp only[cellAt,tn,mX] at aZ
                split at aZ
                · have:=h6 (off+r) c v aZ
                  rw[fC] at this
                  have e:o+(off * kq+r * kq+c)=o+off * kq+(r * kq+c):=by omega
                  rw[e] at this
                  exact this
                · simp at aZ
        · simp at hs
  | _=>simp[nJ] at hs
end Go.Am
namespace Go.Am
variable {P:Program}
theorem BT {rows:List (List AV)} {sz r c:Nat} {v:AV} (hr:∀ row∈rows,row.length=sz) (h:cellAt rows r c=some v):r<rows.length∧c<sz:=by
  simp only[cellAt,xL] at h
  obtain ⟨y,hy,k8⟩:=h
  have h1:=hr y (iy hy)
  have h2:=(aY.1 k8).1
  have h3:=(aY.1 hy).1
  omega
theorem Om {p s:List (List AV)} {r c:Nat}:cellAt (p++s) r c=if r<p.length then cellAt p r c else cellAt s (r - p.length) c:=by
  unfold cellAt
  split
  · rw[dH (by assumption)]
  · rw[fA (by omega)]
theorem yh {r c n sz:Nat} (hr:r<n) (hc:c<sz):r * sz+c<n * sz:=by
  have:(r+1) * sz≤n * sz:=nE _ hr
  rw[fC] at this;omega
theorem aa1 {R:AV→Value→Prop} {p s:List (List AV)} {sz:Nat} (hp:∀ row∈p,row.length=sz) (hs:∀ row∈s,row.length=sz) {go g:Nat→Value}
    (h1:∀ r c v,cellAt p r c=some v→R v (go (r * sz+c))) (h2:∀ r c v,cellAt s r c=some v→R v (g (r * sz+c))) (rest:List Value)
    (r c:Nat) (v:AV) (h:cellAt (p++s) r c=some v) :
    R v (((((bn (p.length * sz)).map go)++((bn (s.length * sz)).map g))++rest).toArray.getD (r * sz+c) Go.undef):=by
  rw[Om] at h
  simp only[eY,G1]
  split at h
  · obtain ⟨hr,hc⟩:=BT hp h
    have:=yh hr hc
    rw[dj,dH (by simpa using this)]
    simp[this]
    exact h1 r c v h
  · rename_i l9
    obtain ⟨hr,hc⟩:=BT hs h
    have hl:=yh hr hc
    have e:r * sz+c=p.length * sz+((r - p.length) * sz+c):=by
      have:r=p.length+(r - p.length):=by omega
      conv=>lhs;rw[this,fC]
      omega
    rw[dH (by simp;omega),fA (by simp;omega)]
    have e2:r * sz+c - (List.map go (bn (p.length * sz))).length=(r - p.length) * sz+c:=by simp;omega
    rw[e2]
    simp[hl]
    exact h2 _ _ _ h
theorem aa2 {σ:St} {γ:Cx} (h:bj σ γ) {x:AV} {cv:Value} (hv:aB σ.aa γ.w γ.Z γ.blk x cv) {sz:Nat} {pre:List (List AV)} {σ1:St} (hs:p8 σ sz x=some (pre,σ1)) :
    (bj σ1 γ∧Fr σ.aa γ σ1.aa γ∧∃ k,σ1.aa.length=k) ∧
    ((cv=.slice none 0 0∧pre=[]) ∨
     (∃ id b x bo cur t,cv=.slice (some ⟨b,x,none⟩) 0 0∧pre=[]∧Live σ.aa id∧σ1 = { σ with aa:=σ.aa.set id .gone }∧γ.blk id=some (b,bo)∧γ.w.heap[b]?=some (.cells cur t (0,0))) ∨
     ∃ id off rows b o cap cap' cur t,σ.aa[id]?=some (.arr sz rows)∧σ1 = { σ with aa:=σ.aa.set id .gone }∧γ.blk id=some (b,o,cap)∧γ.w.heap[b]?=some (.cells cur t (0,0)) ∧
      cv=.slice (some ⟨b,o+off * sz,none⟩) pre.length cap'∧pre.length≤cap'∧cap'≤maxLen∧o+off * sz+cap' * sz≤cur.size∧(∀ row∈pre,row.length=sz) ∧
      ∀ r c v,cellAt pre r c=some v→aB σ.aa γ.w γ.Z γ.blk v (cur.getD (o+off * sz+(r * sz+c)) Go.undef)):=by
  unfold p8 at hs
  split at hs
  · simp at hs
    obtain ⟨rfl,rfl⟩:=hs
    exact⟨⟨h,Fr.refl _ _,_,rfl⟩,.inl ⟨hv.cH,rfl⟩⟩
  · rename_i id cJ off len
    cases ho:σ.aa[id]? with
    | none=>simp[ho] at hs
    | some ob =>
      have cj:=h.eN id ob ho
      cases ob with
      | gone=>simp[ho] at hs
      | mp ag L=>simp[ho] at hs
      | var cells=>simp[ho] at hs
      | arr kq rows =>
        simp only[ho] at hs
        split at hs
        · rename_i he
          obtain ⟨On,tK⟩:=he
          subst On
          subst tK
          simp at hs
          obtain ⟨rfl,rfl⟩:=hs
          refine⟨⟨h.kill id,Fr.kill _ _ _,_,rfl⟩,?_⟩
          obtain ⟨_,bX,cj⟩:=cj
          cases hv with
          | cI _ _ h=>cases h
          | kx _ _ _ _ _ h=>rw[ho] at h;simp at h
          | l7 _ _ h hb=>left;exact⟨rfl,by simp⟩
          | mz _ _ _ b x bo gk h' hb hl =>
            right;left
            rcases cj with ⟨h1,_⟩ | ⟨b',o',BR,cur,t,h1,h2,_⟩
            · rw[hb] at h1;simp at h1
            · rw[hb] at h1;simp at h1
              obtain ⟨rfl,_⟩:=h1
              exact⟨id,b,x,bo,cur,t,rfl,by simp,⟨_,ho,by simp⟩,rfl,hb,h2⟩
          | ref _ _ _ _ b o cap cap' gk h' hb hl hc ic =>
            rw[ho] at h';simp at h'
            subst h'
            rcases cj with ⟨h1,_⟩ | ⟨b',o',BR,cur,t,h1,h2,h3,h4,h5,h6⟩
            · rw[hb] at h1;simp at h1
            · rw[hb] at h1;simp at h1
              obtain ⟨rfl,rfl,rfl⟩:=h1
              right;right
              have hlen:((rows.drop off).take len).length=len:=by simp;omega
              refine⟨id,off,rows,b,o,cap,cap',cur,t,ho,rfl,hb,h2,by rw[hlen],by omega,by omega,?_,?_,?_⟩
              · have:(off+cap') * kq≤cap * kq:=nE _ hc
                rw[fC] at this;omega
              · intro row a6
                exact bX row (xM (qG a6))
              · intro r c v aZ
                simp only[cellAt,tn,mX] at aZ
                split at aZ
                · have:=h6 (off+r) c v aZ
                  rw[fC] at this
                  have e:o+(off * kq+r * kq+c)=o+off * kq+(r * kq+c):=by omega
                  rw[e] at this
                  exact this
                · simp at aZ
        · simp at hs
  · simp at hs
theorem aa3 (w:World) (t ty' e:TypeId) (i:TypeInfo) (ht:P.underlying t=some (.slice e)) (hi:P.info? e=some i)
    (g o yx Ig:Nat) (cur:Array Value) (tt:TypeId) (hg:w.heap[g]?=some (.cells cur tt (0,0)))
    (xa:Option Addr) (m c:Nat) (news:List Value) (hl:news.length=m * i.size) (wA:0<m→∃ a,xa=some a∧∀ j u,news[j]?=some u→w.cell? (a.add j)=some u) (h1:∀ u∈news,u.oneCell'=true)
    (Ad:yx+m≤Ig) (dx:o+yx * i.size+news.length≤cur.size) :
    (Builtin.append_ #[t,t] ty' #[.slice (some ⟨g,o,none⟩) yx Ig,.slice xa m c]).run P w =
      .ok (.slice (some ⟨g,o,none⟩) (yx+m) Ig) (w.setRow g (cur.toList.take (o+yx * i.size)++news++cur.toList.drop (o+yx * i.size+news.length)).toArray):=by
  have hf:(Builtin.firstCells i.size m (.slice xa m c)).run P w=.ok news.toArray w:=by
    rcases oh m with h0 | hp
    · subst h0
      have hn:news=[]:=qF (by simpa using hl)
      subst hn
      cases xa<;>simp[Builtin.firstCells,loadCells,loadCellsFrom]
    · obtain ⟨a,rfl,hc⟩:=wA hp
      exact run_firstCells_some w i.size m a m c news hl hc
  have dV:=run_storeCells_at P g (o+yx * i.size) tt news 0 cur w hg (by simpa using dx) h1
  simp only[gU] at dV
  simp[Builtin.append_,run_underlying ht,sizeOf,typeInfo,hi,Builtin.lenOf,Ad,hf,Addr.qW,dV]
theorem Ae {g:Nat→Value} {n j:Nat} {u:Value} (h:((bn n).map g)[j]?=some u):j<n∧u=g j:=by
  have hj:=(aY.1 h).1
  simp at hj
  simp[hj] at h
  exact⟨hj,h.symm⟩
theorem aaV {σ σ1:St} {γ:Cx} (h:bj σ γ) {t oty:TypeId} {sz:Nat} {z:List Value} (hk:(ty P t).kind=1) (dT:(ty P (ty P t).elem).kind≠99) (hz:(ty P (ty P t).elem).zero=some z)
    (a5:sz=(ty P (ty P t).elem).size) (h0:0<sz) (kB:z.length=sz) {sD x:AV} {qX Ce:Value} (hS:aB σ.aa γ.w γ.Z γ.blk sD qX) (hX:aB σ.aa γ.w γ.Z γ.blk x Ce)
    {pre src:List (List AV)} (hd:p8 σ sz sD=some (pre,σ1)) (sv:nJ σ x=some (sz,src)) (hlen:pre.length+src.length≤549755813888) (B7:(ty P (ty P t).elem).bytes≤128)
    (qg:(src.all fun row=>row.all cm)=true) :
    ∃ oG γ1,(Builtin.append_ #[t,t] oty #[qX,Ce]).run P γ.w=.ok oG γ1.w∧γ1.tmps=γ.tmps∧bj { σ1 with aa:=σ1.aa++[.arr sz (pre++src)] } γ1 ∧
      Fr σ.aa γ (σ1.aa++[.arr sz (pre++src)]) γ1∧aB (σ1.aa++[.arr sz (pre++src)]) γ1.w γ1.Z γ1.blk (.ref σ1.aa.length sz 0 (pre.length+src.length)) oG:=by
  obtain ⟨i,d,hi,EG,sB,B8,hzero⟩:=sC dT
  have ht:=sA hk
  have u9:i.size=sz:=by rw[← sB,← a5]
  obtain ⟨zv,yq,im⟩ :∃zv,i.zero=some zv∧zv.cells.size=sz:=by
    rw[hzero] at hz
    cases hv:i.zero with
    | none=>simp[hv] at hz
    | some v=>simp[hv] at hz;exact⟨v,rfl,by rw[← kB,← hz];simp⟩
  obtain ⟨ad,c,g,rfl,mC,jK,Af⟩:=Ol h hX h0 sv
  obtain ⟨⟨l0,Oo,_⟩,aa5⟩:=aa2 h hS hd
  let news:=(bn (src.length * sz)).map g
  have ak:news.length=src.length * i.size:=by simp[news,u9]
  have aa6:∀ u∈news,u.oneCell'=true:=by
    intro u hu
    obtain ⟨j,hj⟩:=LV.1 hu
    obtain ⟨jH,rfl⟩:=Ae hj
    have h1:j / sz<src.length:=Nat.div_lt_of_lt_mul (by rw[rX];exact jH)
    have h2:j % sz<sz:=zH _ h0
    have bX:(src[j / sz]).length=sz:=mC _ (pU h1)
    have:=Af (j / sz) (j % sz) ((src[j / sz])[j % sz]'(by omega)) (by simp[cellAt,h1,h2,bX])
    have e:j / sz * sz+j % sz=j:=by rw[rX];exact LX j sz
    rw[e] at this
    refine EM this ?_
    rw[eW] at qg
    have:=qg _ (pU h1)
    rw[eW] at this
    exact this _ (pU _)
  have wA:0<src.length→∃ a,ad=some a∧∀ j u,news[j]?=some u→γ.w.cell? (a.add j)=some u:=by
    intro hp
    obtain ⟨b,o,rfl,hc⟩:=jK hp
    refine⟨_,rfl,fun j u hu=>?_⟩
    obtain ⟨jH,rfl⟩:=Ae hu
    rw[Addr.qW]
    exact hc j jH
  have wB:pre.length+src.length≤maxLen:=by unfold maxLen;omega
  have eF:(pre.length+src.length) * i.bytes≤140737488355328:=by
    rw[← B8]
    calc _≤549755813888 * 128:=Nat.mul_le_mul hlen B7
      _≤_:=by omega
  have fresh:∀ (kz:Nat) (go:Nat→Value),(∀ row∈pre,row.length=sz)→(∀ r c v,cellAt pre r c=some v→aB σ.aa γ.w γ.Z γ.blk v (go (r * sz+c))) →
      ∀ (w':World) (cap:Nat),pre.length+src.length≤cap→cap≤maxLen →
        w'=γ.w.drew.alloc (.cells (((bn (pre.length * sz)).map go).toArray++news.toArray++Builtin.zeroCells zv.cells (cap - (pre.length+src.length))) (ty P t).elem) →
        ∃ γ1:Cx,γ1.w=w'∧γ1.tmps=γ.tmps∧bj { σ1 with aa:=σ1.aa++[.arr sz (pre++src)] } γ1∧Fr σ.aa γ (σ1.aa++[.arr sz (pre++src)]) γ1 ∧
          aB (σ1.aa++[.arr sz (pre++src)]) γ1.w γ1.Z γ1.blk (.ref σ1.aa.length sz 0 (pre.length+src.length)) (.slice (some ⟨γ.w.heap.size,0,none⟩) (pre.length+src.length) cap):=by
    intro kz go b9 EO w' cap ni Oq yk
    have EP:∀ v cv,aB σ.aa γ.w γ.Z γ.blk v cv→aB σ1.aa γ.w γ.Z γ.blk v cv:=by
      intro v cv hv
      refine hv.mono (fun b hb=>⟨hb,rfl⟩) (fun i o ho=>?_)
      unfold p8 at hd
      split at hd
      · simp at hd
        rw[← hd.2]
        by_cases bE:o=.gone
        · subst bE;exact .inl ho
        · exact .inr ⟨rfl,o,ho,Ob.jY bE⟩
      · rename_i id cJ off len
        have hi:i<σ.aa.length:=(aY.1 ho).1
        split at hd
        · split at hd
          · simp at hd
            rw[← hd.2]
            show (σ.aa.set id Ob.gone)[i]?=some Ob.gone∨_
            simp only[bO]
            by_cases mA:id=i
            · left;simp[mA,hi]
            · rw[if_neg mA]
              by_cases bE:o=.gone
              · subst bE;exact .inl ho
              · exact .inr ⟨trivial,o,ho,Ob.jY bE⟩
          · simp at hd
        · simp at hd
      · simp at hd
    let cur:=((bn (pre.length * sz)).map go).toArray++news.toArray++Builtin.zeroCells zv.cells (cap - (pre.length+src.length))
    have cj:sw σ1.aa γ.w γ.Z γ.blk 0 cap cur (.arr sz (pre++src)):=by
      refine⟨h0,?_,?_,by simpa using ni,Oq,?_⟩
      · intro row a6
        rcases dh.1 a6 with h | h
        · exact b9 row h
        · exact mC row h
      · simp only[cur,news,Array.size_append,By,eD,List.length_range,size_zeroCells,im,← fC]
        have:pre.length+src.length+(cap - (pre.length+src.length))=cap:=by omega
        rw[this];omega
      · intro r c v hv
        have:=aa1 (R:=aB σ1.aa γ.w γ.Z γ.blk) b9 mC (fun r c v hv=>EP _ _ (EO r c v hv)) (fun r c v hv=>EP _ _ (Af r c v hv)) (Builtin.zeroCells zv.cells (cap - (pre.length+src.length))).toList r c v hv
        rw[eK]
        have e:cur=(((bn (pre.length * sz)).map go)++((bn (src.length * sz)).map g)++(Builtin.zeroCells zv.cells (cap - (pre.length+src.length))).toList).toArray:=by
          apply Array.ext'
          simp[cur,news]
        rw[e]
        exact this
    refine⟨{ γ with w:=w',blk:=cK γ.blk σ1.aa.length (some (γ.w.heap.size,0,cap)) },rfl,rfl,?_,?_,?_⟩
    · exact l0.push (t:=(ty P t).elem) (cur:=cur) (by rw[yk];rfl) cj
    · exact Oo.trans (Fr.push (σ:=σ1) (t:=(ty P t).elem) (cur:=cur) _ (by rw[yk];rfl) (by rw[yk];rfl) (by rw[yk];rfl) (by rw[yk];rfl))
    · have:=aB.ref (os:=σ1.aa++[.arr sz (pre++src)]) (w:=w') (Z:=γ.Z) (blk:=cK γ.blk σ1.aa.length (some (γ.w.heap.size,0,cap))) σ1.aa.length sz 0 (pre.length+src.length) γ.w.heap.size 0 cap cap (pre++src)
        (by simp) (by simp[cK]) (by simp) (by omega) ni
      simpa using this
  rcases aa5 with ⟨rfl,rfl⟩ | ⟨id,b,x,bo,cur,tt,rfl,rfl,oH,rfl,hb,jI⟩ | ⟨id,off,rows,b,o,cap,cap',cur,tt,ho,rfl,hb,jI,rfl,nU,gJ,dx,b9,EO⟩
  · rcases oh src.length with hm | hp
    ·
      have nf:src=[]:=qF hm
      subst nf
      refine⟨.slice none 0 0,{ γ with blk:=cK γ.blk σ1.aa.length none },?_,rfl,l0.yl h0,Oo.trans (Fr.yl _ _ _),?_⟩
      · cases ad<;>simp[Builtin.append_,run_underlying ht,sizeOf,typeInfo,hi,Builtin.lenOf,Builtin.firstCells,loadCells,loadCellsFrom]
      · exact .l7 _ _ (by simp) (by simp[cK])
    · obtain ⟨a,rfl,hc⟩:=wA hp
      have hr:=run_append_nil (P:=P) γ.w t oty _ i zv ht hi yq a src.length c news ak hc hp (by unfold maxLen at wB;simp at wB;omega) (by have hb:=eF;simp only[pj,eK] at hb;omega)
      have l9:=grownCap_ge γ.w src.length 0 (ty P t).elem
      have gJ:=grownCap_le_maxLen γ.w src.length 0 (ty P t).elem (by simpa using wB)
      obtain ⟨γ1,e1,e2,e3,e4,e5⟩:=fresh 0 (fun _=>Go.undef) (by simp) (by simp[cellAt]) _ (grownCap γ.w src.length 0 (ty P t).elem) (by simpa using l9) gJ rfl
      simp only[pj,Nat.zero_mul,List.range_zero,List.map_nil,eK,Array.empty_append] at e1 e5
      refine⟨.slice (some ⟨γ.w.heap.size,0,none⟩) src.length (grownCap γ.w src.length 0 (ty P t).elem),γ1,?_,e2,e3,e4,?_⟩
      · rw[hr,e1]
      · simpa using e5
  · rcases oh src.length with hm | hp
    · have nf:src=[]:=qF hm
      subst nf
      obtain ⟨ob,ho,hg⟩:=oH
      have nQ:∀ k,k≠b→γ.w.heap[k]?=γ.w.heap[k]?:=fun _ _=>rfl
      have Ag:=h.Cc (ob':=.arr sz []) (o':=0) (cap':=0) ho hg (o:=bo.1) (cap:=bo.2) hb jI nQ rfl ⟨h0,by simp,by simp,by simp,by simp[maxLen],by simp[cellAt]⟩
      have eE:=Fr.Cc (γ:=γ) (o':=0) (cap':=0) (.arr sz []) ho hg (o:=bo.1) (cap:=bo.2) hb (w':=γ.w) nQ rfl rfl rfl rfl
      refine⟨.slice (some ⟨b,x,none⟩) 0 0,{ γ with w:=γ.w,blk:=cK γ.blk σ.aa.length (some (b,0,0)) },?_,rfl,by simpa using Ag,by simpa using eE,?_⟩
      · cases ad<;>simp[Builtin.append_,run_underlying ht,sizeOf,typeInfo,hi,Builtin.lenOf,Builtin.firstCells,loadCells,loadCellsFrom,storeCells]
      · have:=aB.mz (os:=σ.aa.set id .gone++[.arr sz []]) (w:=γ.w) (Z:=γ.Z) (blk:=cK γ.blk σ.aa.length (some (b,0,0))) σ.aa.length sz 0 b x (0,0) []
          (by rw[fA (by simp)];simp) (by simp[cK]) (by simp)
        simpa using this
    · obtain ⟨a,rfl,hc⟩:=wA hp
      have hr:=run_append_grow (P:=P) γ.w t oty _ i zv ht hi yq ⟨b,x,none⟩ 0 0 [] (by simp) (by simp) a src.length c news ak hc (by omega) (by unfold maxLen at wB;simp at wB;omega) (growslice_fits (by omega) (by simpa using eF))
      have l9:=grownCap_ge γ.w (0+src.length) 0 (ty P t).elem
      have gJ:=grownCap_le_maxLen γ.w (0+src.length) 0 (ty P t).elem (by simpa using wB)
      obtain ⟨γ1,e1,e2,e3,e4,e5⟩:=fresh 0 (fun _=>Go.undef) (by simp) (by simp[cellAt]) _ (grownCap γ.w (0+src.length) 0 (ty P t).elem) (by simpa using l9) gJ rfl
      refine⟨.slice (some ⟨γ.w.heap.size,0,none⟩) (0+src.length) (grownCap γ.w (0+src.length) 0 (ty P t).elem),γ1,?_,e2,e3,e4,?_⟩
      · rw[hr,e1];simp
      · simpa using e5
  · by_cases Ad:pre.length+src.length≤cap'
    ·
      have hmul:pre.length * sz+src.length * sz≤cap' * sz:=by rw[← fC];exact nE _ Ad
      have ER:news.length=src.length * sz:=by rw[ak,u9]
      have hr:=aa3 (P:=P) γ.w t oty _ i ht hi b (o+off * sz) pre.length cap' cur tt jI ad src.length c news ak wA aa6 Ad (by rw[u9,ER];omega)
      have cj:sw σ.aa γ.w γ.Z γ.blk (o+off * sz) cap' (cur.toList.take (o+off * sz+pre.length * i.size)++news++cur.toList.drop (o+off * sz+pre.length * i.size+news.length)).toArray (.arr sz (pre++src)):=by
        refine⟨h0,?_,?_,by simpa using Ad,gJ,?_⟩
        · intro row a6
          rcases dh.1 a6 with h | h
          · exact b9 row h
          · exact mC row h
        · simp only[By,bU,eX,rT,th,u9,ER]
          omega
        · intro r c v hv
          rw[Ca cur _ news (by rw[u9,ER];omega),u9,ER]
          rw[Om] at hv
          split at hv
          · obtain ⟨nj,ni⟩:=BT b9 hv
            have:=yh nj ni
            rw[if_neg (by omega)]
            exact EO r c v hv
          · obtain ⟨nj,ni⟩:=BT mC hv
            have hl:=yh nj ni
            have e:r * sz+c=pre.length * sz+((r - pre.length) * sz+c):=by
              have:r=pre.length+(r - pre.length):=by omega
              conv=>lhs;rw[this,fC]
              omega
            rw[if_pos (by omega)]
            have e2:o+off * sz+(r * sz+c) - (o+off * sz+pre.length * sz)=(r - pre.length) * sz+c:=by omega
            rw[e2]
            simp only[news,ay]
            simp[hl]
            exact Af _ _ _ hv
      have Ag:=h.Cc ho (by simp) hb (setRow_heap γ.w b cur _ tt _ jI) (fun k hk=>setRow_other γ.w b k _ hk) (setRow_size _ _ _) cj
      have eE:=Fr.Cc (γ:=γ) (o':=o+off * sz) (cap':=cap') (.arr sz (pre++src)) ho (by simp) hb (w':=γ.w.setRow b (cur.toList.take (o+off * sz+pre.length * i.size)++news++cur.toList.drop (o+off * sz+pre.length * i.size+news.length)).toArray) (fun k hk=>setRow_other γ.w b k _ hk) (setRow_size _ _ _) rfl rfl rfl
      refine⟨_,{ γ with w:=γ.w.setRow b (cur.toList.take (o+off * sz+pre.length * i.size)++news++cur.toList.drop (o+off * sz+pre.length * i.size+news.length)).toArray,blk:=cK γ.blk σ.aa.length (some (b,o+off * sz,cap')) },hr,rfl,?_,?_,?_⟩
      · simpa using Ag
      · simpa using eE
      · have:=aB.ref (os:=σ.aa.set id .gone++[.arr sz (pre++src)]) (w:=γ.w.setRow b (cur.toList.take (o+off * sz+pre.length * i.size)++news++cur.toList.drop (o+off * sz+pre.length * i.size+news.length)).toArray) (Z:=γ.Z)
          (blk:=cK γ.blk σ.aa.length (some (b,o+off * sz,cap'))) σ.aa.length sz 0 (pre.length+src.length) b (o+off * sz) cap' cap' (pre++src)
          (by rw[fA (by simp)];simp) (by simp[cK]) (by simp) (by omega) Ad
        simpa using this
    ·
      let go:Nat→Value:=fun j=>cur.getD (o+off * sz+j) Go.undef
      let ES:=(bn (pre.length * sz)).map go
      have fG:ES.length=pre.length * i.size:=by simp[ES,u9]
      have aiJ:pre.length * sz≤cap' * sz:=nE _ nU
      have holds:∀ j v,ES[j]?=some v→γ.w.cell? ((⟨b,o+off * sz,none⟩:Addr).add j)=some v:=by
        intro j v hj
        obtain ⟨jH,rfl⟩:=Ae hj
        rw[Addr.qW]
        exact zZ jI (by omega)
      have hp:0<src.length:=by omega
      obtain ⟨a,rfl,hc⟩:=wA hp
      have hr:=run_append_grow (P:=P) γ.w t oty _ i zv ht hi yq ⟨b,o+off * sz,none⟩ pre.length cap' ES fG holds a src.length c news ak hc (by omega) (by unfold maxLen at wB;omega) (growslice_fits (by omega) eF)
      have l9:=grownCap_ge γ.w (pre.length+src.length) cap' (ty P t).elem
      have aa7:=grownCap_le_maxLen γ.w (pre.length+src.length) cap' (ty P t).elem wB
      obtain ⟨γ1,e1,e2,e3,e4,e5⟩:=fresh 0 go b9 EO _ (grownCap γ.w (pre.length+src.length) cap' (ty P t).elem) l9 aa7 rfl
      refine⟨_,γ1,?_,e2,e3,e4,e5⟩
      rw[hr,e1]
theorem aaW {σ:St} {γ:Cx} (h:bj σ γ) {t t' oty:TypeId} {sz:Nat} (hk:(ty P t).kind=1) (dT:(ty P (ty P t).elem).kind≠99)
    (a5:sz=(ty P (ty P t).elem).size) (h0:0<sz) {id off len:Nat} {x:AV} {qX Ce:Value} (hS:aB σ.aa γ.w γ.Z γ.blk (.ref id sz off len) qX) (hX:aB σ.aa γ.w γ.Z γ.blk x Ce)
    {rows:List (List AV)} (ho:σ.aa[id]?=some (.arr sz rows)) {src:List (List AV)} (sv:nJ σ x=some (sz,src)) (qg:(src.all fun row=>row.all cm)=true) :
    ∃ w',(Builtin.copy_ #[t,t'] oty #[qX,Ce]).run P γ.w=.ok (.int .i64 (min src.length len:Nat)) w' ∧
      bj { σ with aa:=σ.aa.set id (.arr sz (rows.take off++src.take (min src.length len)++rows.drop (off+min src.length len))) } { γ with w:=w' } ∧
      Fr σ.aa γ (σ.aa.set id (.arr sz (rows.take off++src.take (min src.length len)++rows.drop (off+min src.length len)))) { γ with w:=w' }:=by
  obtain ⟨i,d,hi,EG,sB,B8,hzero⟩:=sC dT
  have ht:=sA hk
  have u9:i.size=sz:=by rw[← sB,← a5]
  obtain ⟨ad,c,g,rfl,mC,jK,Af⟩:=Ol h hX h0 sv
  have cT:id<σ.aa.length:=(aY.1 ho).1
  have zero:∀ (yy:Option Addr) (cap':Nat),min src.length len=0→qX=.slice yy len cap'→∃ w',(Builtin.copy_ #[t,t'] oty #[qX,.slice ad src.length c]).run P γ.w=.ok (.int .i64 (min src.length len:Nat)) w' ∧
      bj { σ with aa:=σ.aa.set id (.arr sz (rows.take off++src.take (min src.length len)++rows.drop (off+min src.length len))) } { γ with w:=w' } ∧
      Fr σ.aa γ (σ.aa.set id (.arr sz (rows.take off++src.take (min src.length len)++rows.drop (off+min src.length len)))) { γ with w:=w' }:=by
    intro yy cap' hz aZ
    have k9:σ.aa.set id (.arr sz rows)=σ.aa:=by
      apply km
      intro j
      rw[bO]
      split
      · rename_i e;subst e;simp[ho]
      · rfl
    refine⟨γ.w,?_,?_,?_⟩
    · have hm:Nat.min src.length len=0:=hz
      subst aZ
      cases ad<;>cases yy<;>simp[Builtin.copy_,run_underlying ht,sizeOf,typeInfo,hi,Builtin.lenOf,Builtin.firstCells,loadCells,loadCellsFrom,storeCells,hm,goInt,hz]
    · rw[hz];simp[k9];exact h
    · rw[hz];simp[k9];exact Fr.refl _ _
  cases hS with
  | cI _ _ h=>cases h
  | kx _ _ _ _ _ h=>rw[ho] at h;simp at h
  | l7 _ _ h hb=>exact zero none 0 (by simp) rfl
  | mz _ _ _ b x bo gk h hb hl=>exact zero _ 0 (by simp) rfl
  | ref _ _ _ _ b o cap cap' gk h' hb hl hc ic =>
    rw[ho] at h';simp at h'
    subst h'
    rcases oh (min src.length len) with hz | hp
    · exact zero _ _ hz rfl
    obtain ⟨_,bX,cj⟩:=h.eN id _ ho
    rcases cj with ⟨h1,_⟩ | ⟨b',o',BR,cur,tt,h1,h2,h3,h4,h5,h6⟩
    · rw[hb] at h1;simp at h1
    rw[hb] at h1;simp at h1
    obtain ⟨rfl,rfl,rfl⟩:=h1
    generalize hn:min src.length len=n at *
    have eh:n≤src.length:=by omega
    have oF:n≤len:=by omega
    let news:=(bn (n * sz)).map g
    have ak:news.length=n * sz:=by simp[news]
    have mD:∀ u∈news,u.oneCell'=true:=by
      intro u hu
      obtain ⟨j,hj⟩:=LV.1 hu
      obtain ⟨jH,rfl⟩:=Ae hj
      have k1:j / sz<n:=Nat.div_lt_of_lt_mul (by rw[rX];exact jH)
      have k2:j % sz<sz:=zH _ h0
      have k3:j / sz<src.length:=by omega
      have bX:(src[j / sz]).length=sz:=mC _ (pU k3)
      have:=Af (j / sz) (j % sz) ((src[j / sz])[j % sz]'(by omega)) (by simp[cellAt,k3,k2,bX])
      have e:j / sz * sz+j % sz=j:=by rw[rX];exact LX j sz
      rw[e] at this
      refine EM this ?_
      rw[eW] at qg
      have:=qg _ (pU k3)
      rw[eW] at this
      exact this _ (pU _)
    obtain ⟨sb,so,rfl,p6⟩:=jK (by omega)
    have hle:n * sz≤src.length * sz:=nE _ eh
    have yz:=run_loadCells_list (P:=P) γ.w ⟨sb,so,none⟩ news (fun j v hj=>by
      obtain ⟨jH,rfl⟩:=Ae hj
      rw[Addr.qW]
      exact p6 j (by omega))
    have dx:(off+n) * sz≤cap * sz:=nE _ (by omega)
    rw[fC] at dx
    have dV:=run_storeCells_at P b (o+off * sz) tt news 0 cur γ.w h2 (by rw[ak];omega) mD
    simp only[gU] at dV
    have eO:(Builtin.copy_ #[t,t'] oty #[.slice (some ⟨b,o+off * sz,none⟩) len cap',.slice (some ⟨sb,so,none⟩) src.length c]).run P γ.w=.ok (.int .i64 (n:Nat)) (γ.w.setRow b (cur.toList.take (o+off * sz)++news++cur.toList.drop (o+off * sz+news.length)).toArray):=by
      have hm:Nat.min src.length len=n:=hn
      rw[ak] at yz
      simp[Builtin.copy_,run_underlying ht,sizeOf,typeInfo,hi,Builtin.lenOf,Builtin.firstCells,hm,u9,yz,dV,goInt]
    have Ih:sw σ.aa γ.w γ.Z γ.blk o cap (cur.toList.take (o+off * sz)++news++cur.toList.drop (o+off * sz+news.length)).toArray (.arr sz (rows.take off++src.take n++rows.drop (off+n))):=by
      refine⟨h0,?_,?_,?_,h5,?_⟩
      · intro row a6
        simp only[dh] at a6
        rcases a6 with (hr | hr) | hr
        · exact bX row (qG hr)
        · exact mC row (qG hr)
        · exact bX row (xM hr)
      · simp only[By,bU,eX,rT,th,ak]
        omega
      · simp;omega
      · intro r cc v hv
        rw[Ca cur _ news (by rw[ak];omega),ak]
        have aT:cc<sz:=by
          simp only[cellAt,xL] at hv
          obtain ⟨y,hy,k8⟩:=hv
          have hm:=iy hy
          have:=(aY.1 k8).1
          simp only[dh] at hm
          rcases hm with (hr | hr) | hr
          · have:=bX y (qG hr);omega
          · have:=mC y (qG hr);omega
          · have:=bX y (xM hr);omega
        rcases dG r off with k1 | k1
        · have e:cellAt (rows.take off++src.take n++rows.drop (off+n)) r cc=cellAt rows r cc:=by
            simp only[cellAt,dj]
            rw[dH (by simp;omega),tn,if_pos k1]
          rw[e] at hv
          have hm:(r+1) * sz≤off * sz:=nE _ (by omega)
          rw[fC] at hm
          rw[if_neg (by omega)]
          exact h6 r cc v hv
        · rcases dG r (off+n) with k2 | k2
          · have e:cellAt (rows.take off++src.take n++rows.drop (off+n)) r cc=cellAt src (r - off) cc:=by
              simp only[cellAt,dj]
              rw[fA (by simp;omega),dH (by simp;omega),tn,if_pos (by simp;omega)]
              congr 2;simp;omega
            rw[e] at hv
            have e1:r=off+(r - off):=by omega
            have e2:r * sz=off * sz+(r - off) * sz:=by rw[← fC,← e1]
            have hm:(r - off+1) * sz≤n * sz:=nE _ (by omega)
            rw[fC] at hm
            rw[if_pos (by omega)]
            have e3:o+(r * sz+cc) - (o+off * sz)=(r - off) * sz+cc:=by omega
            rw[e3]
            have hl:(r - off) * sz+cc<n * sz:=by omega
            simp only[news,ay]
            simp[hl]
            exact Af _ _ _ hv
          · have e:cellAt (rows.take off++src.take n++rows.drop (off+n)) r cc=cellAt rows r cc:=by
              simp only[cellAt]
              rw[fA (by simp;omega),mX]
              congr 2;simp;omega
            rw[e] at hv
            have hm:(off+n) * sz≤r * sz:=nE _ k2
            rw[fC] at hm
            rw[if_neg (by omega)]
            exact h6 r cc v hv
    refine⟨_,eO,?_,?_⟩
    · exact h.write ho (by simp) (by simp[Ob.dU];omega) hb (setRow_heap γ.w b cur _ tt _ h2) (fun k hk=>setRow_other γ.w b k _ hk) (setRow_size _ _ _) Ih
    · exact Fr.write _ ho (by simp) (by simp[Ob.dU];omega) hb (fun k hk=>setRow_other γ.w b k _ hk) (setRow_size _ _ _) rfl rfl rfl
theorem aaX {σ:St} {γ:Cx} (h:bj σ γ) {t oty:TypeId} {sz:Nat} {z:List Value} (hk:(ty P t).kind=1) (dT:(ty P (ty P t).elem).kind≠99)
    (kB:z.length=sz) (h0:0<sz) (hz:(ty P (ty P t).elem).zero=some z) (EL:(z.all fun u=>u.oneCell')=true) {id off len:Nat} {qX:Value} (hS:aB σ.aa γ.w γ.Z γ.blk (.ref id sz off len) qX)
    {rows:List (List AV)} (ho:σ.aa[id]?=some (.arr sz rows)) :
    ∃ w',(Builtin.clear_ #[t] oty #[qX]).run P γ.w=.ok (.tuple #[]) w' ∧
      bj { σ with aa:=σ.aa.set id (.arr sz (rows.take off++aW len (z.map AV.lit)++rows.drop (off+len))) } { γ with w:=w' } ∧
      Fr σ.aa γ (σ.aa.set id (.arr sz (rows.take off++aW len (z.map AV.lit)++rows.drop (off+len)))) { γ with w:=w' }:=by
  obtain ⟨i,d,hi,EG,sB,B8,hzero⟩:=sC dT
  have ht:=sA hk
  rw[hz] at hzero
  obtain ⟨zv,yq,im⟩:=zG.1 hzero.symm
  have Ii:zv.cells.size=sz:=by rw[← kB,← im];simp
  have cT:id<σ.aa.length:=(aY.1 ho).1
  have zero:∀ (yy:Option Addr) (cap':Nat),len=0→qX=.slice yy len cap'→∃ w',(Builtin.clear_ #[t] oty #[qX]).run P γ.w=.ok (.tuple #[]) w' ∧
      bj { σ with aa:=σ.aa.set id (.arr sz (rows.take off++aW len (z.map AV.lit)++rows.drop (off+len))) } { γ with w:=w' } ∧
      Fr σ.aa γ (σ.aa.set id (.arr sz (rows.take off++aW len (z.map AV.lit)++rows.drop (off+len)))) { γ with w:=w' }:=by
    intro yy cap' yA aZ
    have k9:σ.aa.set id (.arr sz rows)=σ.aa:=by
      apply km
      intro j
      rw[bO]
      split
      · rename_i e;subst e;simp[ho]
      · rfl
    refine⟨γ.w,?_,?_,?_⟩
    · subst aZ;subst yA
      cases yy<;>simp[Builtin.clear_,run_underlying ht]
    · subst yA;simp[k9];exact h
    · subst yA;simp[k9];exact Fr.refl _ _
  cases hS with
  | cI _ _ h=>cases h
  | kx _ _ _ _ _ h=>rw[ho] at h;simp at h
  | l7 _ _ h hb=>exact zero none 0 rfl rfl
  | mz _ _ _ b x bo gk h hb hl=>exact zero _ 0 rfl rfl
  | ref _ _ _ _ b o cap cap' gk h' hb hl hc ic =>
    rw[ho] at h';simp at h'
    subst h'
    rcases oh len with yA | hp
    · exact zero _ _ yA rfl
    obtain ⟨_,bX,cj⟩:=h.eN id _ ho
    rcases cj with ⟨h1,_⟩ | ⟨b',o',BR,cur,tt,h1,h2,h3,h4,h5,h6⟩
    · rw[hb] at h1;simp at h1
    rw[hb] at h1;simp at h1
    obtain ⟨rfl,rfl,rfl⟩:=h1
    let g:Nat→Value:=fun i=>zv.cells[i % zv.cells.size]!
    let news:=(bn (len * sz)).map g
    have wA:(Builtin.zeroCells zv.cells len).toList=news:=by
      simp[Builtin.zeroCells,news,g,Ii]
    have ak:news.length=len * sz:=by simp[news]
    have Ot:∀ i,i<sz→∃ u,z[i]?=some u∧zv.cells[i]! = u:=by
      intro i ax
      have:i<zv.cells.size:=by omega
      refine⟨zv.cells[i],?_,?_⟩
      · rw[← im];simp[this]
      · simp[this]
    have mD:∀ u∈news,u.oneCell'=true:=by
      intro u hu
      obtain ⟨j,hj⟩:=LV.1 hu
      obtain ⟨jH,rfl⟩:=Ae hj
      obtain ⟨u,k1,k2⟩:=Ot (j % sz) (zH _ h0)
      show (zv.cells[j % zv.cells.size]!).oneCell'=true
      rw[Ii,k2]
      rw[eW] at EL
      exact EL _ (iy k1)
    have dx:(off+len) * sz≤cap * sz:=nE _ (by omega)
    rw[fC] at dx
    have dV:=run_storeCells_at P b (o+off * sz) tt news 0 cur γ.w h2 (by rw[ak];omega) mD
    simp only[gU] at dV
    have eO:(Builtin.clear_ #[t] oty #[.slice (some ⟨b,o+off * sz,none⟩) len cap']).run P γ.w=.ok (.tuple #[]) (γ.w.setRow b (cur.toList.take (o+off * sz)++news++cur.toList.drop (o+off * sz+news.length)).toArray):=by
      obtain ⟨aiK,rfl⟩ :∃k,len=k+1:=⟨len - 1,by omega⟩
      simp[Builtin.clear_,run_underlying ht,zeroValue,typeInfo,hi,yq,wA,dV]
    have Ih:sw σ.aa γ.w γ.Z γ.blk o cap (cur.toList.take (o+off * sz)++news++cur.toList.drop (o+off * sz+news.length)).toArray (.arr sz (rows.take off++aW len (z.map AV.lit)++rows.drop (off+len))):=by
      refine⟨h0,?_,?_,?_,h5,?_⟩
      · intro row a6
        simp only[dh] at a6
        rcases a6 with (hr | hr) | hr
        · exact bX row (qG hr)
        · rw[L3 hr,eD];exact kB
        · exact bX row (xM hr)
      · simp only[By,bU,eX,rT,th,ak]
        omega
      · simp;omega
      · intro r cc v hv
        rw[Ca cur _ news (by rw[ak];omega),ak]
        have aT:cc<sz:=by
          simp only[cellAt,xL] at hv
          obtain ⟨y,hy,k8⟩:=hv
          have hm:=iy hy
          have:=(aY.1 k8).1
          simp only[dh] at hm
          rcases hm with (hr | hr) | hr
          · have:=bX y (qG hr);omega
          · have ET:=L3 hr
            rw[ET,eD] at this;omega
          · have:=bX y (xM hr);omega
        rcases dG r off with k1 | k1
        · have e:cellAt (rows.take off++aW len (z.map AV.lit)++rows.drop (off+len)) r cc=cellAt rows r cc:=by
            simp only[cellAt,dj]
            rw[dH (by simp;omega),tn,if_pos k1]
          rw[e] at hv
          have hm:(r+1) * sz≤off * sz:=nE _ (by omega)
          rw[fC] at hm
          rw[if_neg (by omega)]
          exact h6 r cc v hv
        · rcases dG r (off+len) with k2 | k2
          · have e:cellAt (rows.take off++aW len (z.map AV.lit)++rows.drop (off+len)) r cc=(z.map AV.lit)[cc]?:=by
              simp only[cellAt,dj]
              rw[fA (by simp;omega),dH (by simp;omega),List.getElem?_replicate,if_pos (by simp;omega)]
              rfl
            rw[e,bR] at hv
            obtain ⟨u,k3,k4⟩:=Ot cc aT
            rw[k3] at hv
            simp only[eC,dw.injEq] at hv
            subst hv
            have e1:r=off+(r - off):=by omega
            have e2:r * sz=off * sz+(r - off) * sz:=by rw[← fC,← e1]
            have hm:(r - off+1) * sz≤len * sz:=nE _ (by omega)
            rw[fC] at hm
            rw[if_pos (by omega)]
            have e3:o+(r * sz+cc) - (o+off * sz)=(r - off) * sz+cc:=by omega
            rw[e3]
            have hl:(r - off) * sz+cc<len * sz:=by omega
            have e4:news.getD ((r - off) * sz+cc) Go.undef=u:=by
              simp only[news,ay]
              rw[bR,List.getElem?_range hl]
              show zv.cells[((r - off) * sz+cc) % zv.cells.size]! = u
              rw[Ii,rX,LZ,D4 aT,k4]
            first
              | (rw[e4];exact .lit _)
              | (simp only[ay] at e4 ⊢;rw[e4];exact .lit _)
          · have e:cellAt (rows.take off++aW len (z.map AV.lit)++rows.drop (off+len)) r cc=cellAt rows r cc:=by
              simp only[cellAt]
              rw[fA (by simp;omega),mX]
              congr 2;simp;omega
            rw[e] at hv
            have hm:(off+len) * sz≤r * sz:=nE _ k2
            rw[fC] at hm
            rw[if_neg (by omega)]
            exact h6 r cc v hv
    refine⟨_,eO,?_,?_⟩
    · exact h.write ho (by simp) (by simp[Ob.dU];omega) hb (setRow_heap γ.w b cur _ tt _ h2) (fun k hk=>setRow_other γ.w b k _ hk) (setRow_size _ _ _) Ih
    · exact Fr.write _ ho (by simp) (by simp[Ob.dU];omega) hb (fun k hk=>setRow_other γ.w b k _ hk) (setRow_size _ _ _) rfl rfl rfl
end Go.Am
namespace Go.Am
variable {P:Program}
theorem aa8 (l:List Value):∀ (j off:Nat) (cells:Array Value),off+j+l.length≤cells.size →
    ((l.zipIdx j).foldl (fun cs (x:Value × Nat)=>cs.setIfInBounds (off+x.2) x.1) cells).size=cells.size ∧
    ∀ k,((l.zipIdx j).foldl (fun cs (x:Value × Nat)=>cs.setIfInBounds (off+x.2) x.1) cells).getD k Go.undef=if off+j≤k∧k<off+j+l.length then l.getD (k - (off+j)) Go.undef else cells.getD k Go.undef:=by
  induction l with
  | nil=>intro j off cells _;simp;intro k h1 h2;omega
  | cons v l ih =>
    intro j off cells hl
    simp only[dI] at hl
    simp only[List.zipIdx_cons,List.foldl_cons]
    obtain ⟨h1,h2⟩:=ih (j+1) off (cells.setIfInBounds (off+j) v) (by simp;omega)
    refine⟨by rw[h1];simp,fun k=>?_⟩
    rw[h2 k]
    simp only[dI]
    by_cases c1:off+(j+1)≤k∧k<off+(j+1)+l.length
    · rw[if_pos c1,if_pos (by omega)]
      have:k - (off+j)=(k - (off+(j+1)))+1:=by omega
      rw[this];simp
    · rw[if_neg c1]
      by_cases c2:k=off+j
      · subst c2
        rw[if_pos (by omega)]
        simp[eY,show off+j<cells.size by omega]
      · rw[if_neg (by omega)]
        simp[eY,Array.getElem?_setIfInBounds_ne (Ne.symm c2)]
theorem aa9 (v:Value) (off:Nat) (cells:Array Value) :
    (v.cells.zipIdx.foldl (fun cs (c,j)=>cs.setIfInBounds (off+j) c) cells)=((v.cells.toList.zipIdx 0).foldl (fun cs (x:Value × Nat)=>cs.setIfInBounds (off+x.2) x.1) cells):=by
  rw[← Array.foldl_toList]
  simp
def Cf (R:AV→Value→Prop) (cs:List AV) (cur:Array Value):Prop:=cur.size=cs.length∧∀ j x,cs[j]?=some x→R x (cur.getD j Go.undef)
theorem EI {σ:St} {γ:Cx} {place:Nat→Option (Nat × Nat)}:∀ (parts:List (Nat × AV)) (pv:List (Nat × Value)) (cs:List AV) (cur:Array Value) (qb:List AV),
    parts.length=pv.length→(∀ (j:Nat) (p:Nat × AV) (q:Nat × Value),parts[j]?=some p→pv[j]?=some q→p.1=q.1∧aB σ.aa γ.w γ.Z γ.blk p.2 q.2)→(∀ p∈parts,(cellsOf p.2).all cm=true) →
    Cf (aB σ.aa γ.w γ.Z γ.blk) cs cur→l4 place cs parts=some qb→∃ oI,Instr.fill place cur pv=some oI∧Cf (aB σ.aa γ.w γ.Z γ.blk) qb oI
  | [],pv,cs,cur,qb,hl,_,_,hc,h=>by
    have:pv=[]:=qF hl.symm
    subst this
    simp[l4] at h
    subst h
    exact⟨cur,by simp[Instr.fill],hc⟩
  | (i,v)::rest,[],cs,cur,qb,hl,_,_,_,_=>by simp at hl
  | (i,v)::rest,(i',x)::pv,cs,cur,qb,hl,hr,hs,hc,h=>by
    obtain ⟨e1,e2⟩:=hr 0 (i,v) (i',x) rfl rfl
    simp only at e1 e2
    subst e1
    simp only[l4] at h
    cases hp:place i with
    | none=>simp[hp] at h
    | some os =>
      obtain ⟨off,size⟩:=os
      simp only[hp] at h
      split at h
      · rename_i aa'
        obtain ⟨h1,h2⟩:=aa'
        obtain ⟨g1,g2,g3⟩:=H3 e2 (hs (i,v) (by simp))
        have a5:x.cells.size=size:=by rw[g1,h1]
        obtain ⟨eZ,oE⟩:=hc
        have dx:off+0+x.cells.toList.length≤cur.size:=by simp[a5,eZ];omega
        obtain ⟨f1,f2⟩:=aa8 x.cells.toList 0 off cur dx
        have aba:Cf (aB σ.aa γ.w γ.Z γ.blk) (setCells cs off (cellsOf v)) (x.cells.zipIdx.foldl (fun cs (c,j)=>cs.setIfInBounds (off+j) c) cur):=by
          rw[aa9]
          refine⟨by rw[f1,H6];exact eZ,fun j y hj=>?_⟩
          rw[Oj _ _ _ (by rw[h1];exact h2)] at hj
          rw[f2 j]
          simp only[gU,th,a5]
          rw[h1] at hj
          by_cases dE:off≤j∧j<off+size
          · rw[if_pos dE] at hj
            rw[if_pos dE]
            have:=g2 _ _ hj
            simpa [ay,eY] using this
          · rw[if_neg dE] at hj
            rw[if_neg dE]
            exact oE j y hj
        obtain ⟨oI,k1,k2⟩:=EI rest pv _ _ qb (by simpa using hl) (fun j p q hp hq=>hr (j+1) p q (by simpa using hp) (by simpa using hq)) (fun p hp=>hs p (by simp[hp])) aba h
        refine⟨oI,?_,k2⟩
        simp only[Instr.fill,hp]
        rw[if_neg ?_]
        · exact k1
        · simp[a5,eZ];omega
      · simp at h
theorem H2 {os:List Ob} {w:World} {Z:Nat→Prop} {blk:gG} (z:List Value):Cf (aB os w Z blk) (z.map .lit) z.toArray:=by
  refine⟨by simp,fun j x hx=>?_⟩
  simp only[bR] at hx
  cases hj:z[j]? with
  | none=>simp[hj] at hx
  | some y =>
    simp[hj] at hx
    subst hx
    simp[eY,hj]
    exact .lit y
theorem H4 {σ:St} {γ:Cx} (h:bj σ γ) {a:Act} (ha:γ.tmps=a.tmps) (parts:Array (Nat × Operand)) :
    (parts.toList.map fun p=>(p.1,ev σ p.2)).length=(parts.map fun (i,x)=>(i,a.eval x)).toList.length ∧
    ∀ (j:Nat) (p:Nat × AV) (q:Nat × Value),(parts.toList.map fun p=>(p.1,ev σ p.2))[j]?=some p→(parts.map fun (i,x)=>(i,a.eval x)).toList[j]?=some q→p.1=q.1∧aB σ.aa γ.w γ.Z γ.blk p.2 q.2:=by
  refine⟨by simp,fun j p q hp hq=>?_⟩
  simp only[Array.toList_map,bR] at hp hq
  cases hj:parts.toList[j]? with
  | none=>simp[hj] at hp
  | some y =>
    simp only[hj,eC,dw.injEq] at hp hq
    subst hp
    subst hq
    exact⟨rfl,tI h ha y.2⟩
theorem aaI {σ:St} {γ:Cx} (h:bj σ γ) {a:Act} (ha:γ.tmps=a.tmps) {t:TypeId} {parts:Array (Nat × Operand)} {z:List Value} (hk:(ty P t).kind=3) (hz:(ty P t).zero=some z) {cs:List AV}
    (hf:l4 (fun i=>((ty P t).aN[i]?).map fun f=>(f.1,f.2.2)) (z.map .lit) (parts.toList.map fun p=>(p.1,ev σ p.2))=some cs)
    (hs:(parts.toList.all fun p=>(cellsOf (ev σ p.2)).all cm)=true) (hp:((ty P t).aN.all fun f=>decide (0<f.2.2))=true) :
    ∃ cur,(Instr.build t (parts.map fun (i,x)=>(i,a.eval x))).run P γ.w=.ok (.agg cur) γ.w∧aB σ.aa γ.w γ.Z γ.blk (.agg cs) (.agg cur):=by
  obtain ⟨it,d,hi,hd,_,_,hzero⟩:=sC (P:=P) (t:=t) (by rw[hk];simp)
  obtain ⟨fs,hu,gB⟩:=Ia hk
  rw[hzero] at hz
  cases hv:it.zero with
  | none=>simp[hv] at hz
  | some zv =>
    simp[hv] at hz
    have im:z.toArray=zv.cells:=by rw[← hz]
    obtain ⟨hl,hr⟩:=H4 h ha parts
    obtain ⟨cur,h1,h2⟩:=EI (σ:=σ) (γ:=γ) _ _ _ _ cs hl hr (fun p hp=>by
      simp only[bV] at hp
      obtain ⟨q,hq,rfl⟩:=hp
      rw[eW] at hs
      exact hs q hq) (H2 z) hf
    refine⟨cur,run_build γ.w t _ cur ?_,.agg _ _ h2.1 h2.2⟩
    unfold Program.built
    rw[hi,hu]
    simp only[hv]
    have abb:∀ (l:List Field),(∀ f∈l,0<u7 P f.type)→l.mapM (fun f=>(P.info? f.type).map fun i=>(f.offset,i.size))=some (l.map fun f=>(f.offset,u7 P f.type)):=by
      intro l
      induction l with
      | nil=>intro _;simp
      | cons f l ih =>
        intro hl
        have h0:=hl f (by simp)
        unfold u7 at h0
        cases Ij:P.info? f.type with
        | none=>simp[Ij] at h0
        | some i =>
          simp only[List.mapM_cons,Ij,eC,ih (fun g hg=>hl g (by simp[hg]))]
          simp[u7,Ij]
    rw[abb fs.toList (by
      intro f gl
      rw[gB] at hp
      simp only[List.all_map,eW] at hp
      have:=hp f gl
      simpa using this)]
    simp only
    rw[← im]
    have:(fun (x:Nat)=>((fs.toList.map fun f=>(f.offset,u7 P f.type)).toArray[x]?))=(fun (i:Nat)=>((ty P t).aN[i]?).map fun (f:Nat × Nat × Nat)=>(f.1,f.2.2)):=by
      funext i
      rw[gB]
      simp
      cases fs[i]?<;>simp
    rw[this]
    exact h1
theorem aaJ {σ:St} {γ:Cx} (h:bj σ γ) {a:Act} (ha:γ.tmps=a.tmps) {t:TypeId} {parts:Array (Nat × Operand)} {z:List Value} (hk:(ty P t).kind=2) (hz:(ty P t).zero=some z) {cs:List AV}
    (hf:l4 (fun i=>some (i * (ty P (ty P t).elem).size,(ty P (ty P t).elem).size)) (z.map .lit) (parts.toList.map fun p=>(p.1,ev σ p.2))=some cs)
    (hs:(parts.toList.all fun p=>(cellsOf (ev σ p.2)).all cm)=true) (dT:(ty P (ty P t).elem).kind≠99) :
    ∃ cur,(Instr.build t (parts.map fun (i,x)=>(i,a.eval x))).run P γ.w=.ok (.agg cur) γ.w∧aB σ.aa γ.w γ.Z γ.blk (.agg cs) (.agg cur):=by
  obtain ⟨it,d,hi,hd,_,_,hzero⟩:=sC (P:=P) (t:=t) (by rw[hk];simp)
  have hu:=Oh hk
  obtain ⟨ie,de,hie,_,sB,_,_⟩:=sC dT
  rw[hzero] at hz
  cases hv:it.zero with
  | none=>simp[hv] at hz
  | some zv =>
    simp[hv] at hz
    have im:z.toArray=zv.cells:=by rw[← hz]
    obtain ⟨hl,hr⟩:=H4 h ha parts
    obtain ⟨cur,h1,h2⟩:=EI (σ:=σ) (γ:=γ) _ _ _ _ cs hl hr (fun p hp=>by
      simp only[bV] at hp
      obtain ⟨q,hq,rfl⟩:=hp
      rw[eW] at hs
      exact hs q hq) (H2 z) hf
    refine⟨cur,run_build γ.w t _ cur ?_,.agg _ _ h2.1 h2.2⟩
    unfold Program.built
    rw[hi,hu]
    simp only[hv,hie]
    rw[← im,← sB]
    exact h1
theorem H7 (sz:Nat):∀ (n:Nat) (cs:List AV),(l5 sz n cs).length=n
  | 0,_=>rfl
  | n+1,cs=>by simp[l5,H7 sz n]
theorem Od (sz:Nat):∀ (n:Nat) (cs:List AV),n * sz≤cs.length→∀ row∈l5 sz n cs,row.length=sz
  | 0,_,_,row,h=>by simp[l5] at h
  | n+1,cs,hl,row,h=>by
    rw[fC] at hl
    simp only[l5,List.mem_cons] at h
    rcases h with rfl | h
    · simp;omega
    · exact Od sz n (cs.drop sz) (by simp;omega) row h
theorem Oe (sz:Nat):∀ (n:Nat) (cs:List AV) (r c:Nat) (v:AV),cellAt (l5 sz n cs) r c=some v→cs[r * sz+c]?=some v
  | 0,_,r,c,v,h=>by simp[l5,cellAt] at h
  | n+1,cs,0,c,v,h=>by
    simp only[l5,cellAt,List.getElem?_cons_zero,Option.bind_some,tn] at h
    split at h
    · simpa using h
    · simp at h
  | n+1,cs,r+1,c,v,h=>by
    have h':cellAt (l5 sz n (cs.drop sz)) r c=some v:=by simpa [l5,cellAt] using h
    have:=Oe sz n (cs.drop sz) r c v h'
    rw[mX] at this
    rw[fC]
    have e:r * sz+1 * sz+c=sz+(r * sz+c):=by omega
    rw[e]
    exact this
theorem H5 {os:List Ob} {w:World} {Z:Nat→Prop} {blk:gG} (z:List Value) (n m:Nat) (hm:m=n * z.length) (hz:0<z.length) :
    Cf (aB os w Z blk) ((bn n).flatMap fun _=>z.map .lit) ((Array.range m).map (z.toArray[· % z.toArray.size]!)):=by
  subst hm
  have hlen:((bn n).flatMap fun _=>z.map AV.lit).length=n * z.length:=by
    induction n with
    | zero=>simp
    | succ n ih=>rw[vW,po,bU,ih];simp[fC]
  refine⟨by simp[hlen],fun j x hx=>?_⟩
  have hj:j<n * z.length:=by rw[← hlen];exact (aY.1 hx).1
  have key:∀ (n j:Nat),j<n * z.length→((bn n).flatMap fun _=>z.map AV.lit)[j]?=some (.lit (z[j % z.length]'(zH _ hz))):=by
    intro n
    induction n with
    | zero=>intro j hj;simp at hj
    | succ n ih =>
      intro j hj
      have wC:((bn n).flatMap fun _=>z.map AV.lit).length=n * z.length:=by
        clear ih hj hx hlen
        induction n with
        | zero=>simp
        | succ n ih=>rw[vW,po,bU,ih];simp[fC]
      rw[vW,po]
      by_cases Ou:j<n * z.length
      · rw[dH (by rw[wC];exact Ou)]
        exact ih j Ou
      · rw[fA (by rw[wC];omega),wC]
        rw[fC] at hj
        have aT:j - n * z.length<z.length:=by omega
        have qY:j % z.length=j - n * z.length:=by
          have:j=(j - n * z.length)+n * z.length:=by omega
          rw[this,Nat.add_mul_mod_self_right,D4 aT]
          omega
        simp[aT,qY]
  rw[key n j hj] at hx
  simp at hx
  subst hx
  have hm:j % z.length<z.length:=zH _ hz
  simp[eY,hj,hm]
  exact .lit _
end Go.Am

