import Derived.Test.YtdipcmigdbnheaaGreatX00
set_option linter.unusedVariables false
set_option linter.unusedSimpArgs false
set_option linter.unnecessarySimpa false
set_option linter.unusedSectionVars false
set_option maxHeartbeats 64000000
set_option maxRecDepth 20000
open List renaming getElem?_map→bN,mem_of_getElem?→gw,getElem?_eq_some_iff→aS,getElem?_set→bS,range→aT,length_cons→dH,all_eq_true→fK,getElem?_take→sv,getElem?_drop→nI,getElem?_toArray→Gi,getD_eq_getElem?_getD→ay,append_assoc→cI,getElem?_append_left→cj,getElem?_append_right→eE,getElem_mem→tP,mem_of_mem_drop→tS,mem_of_mem_take→p8,eq_nil_of_length_eq_zero→p7,mem_iff_getElem?→KK,mem_append→cy,size_toArray→Ay,length_map→dU,length_nil→nJ,length_append→bJ,length_take→ez,length_drop→tQ,ext_getElem?→ju,replicate→bq,eq_of_mem_replicate→De,mem_map→b7,range_succ→vf,flatMap_append→oN
open Option renaming map_eq_some_iff→yv,bind_eq_some_iff→ve,map_some→ed,some→da
open Array renaming getD_eq_getD_getElem?→eQ,length_toList→sr
open Nat renaming mul_le_mul_right→mX,add_mul→e9,add_assoc→vg,add_zero→g7,ne_of_lt→lv,lt_or_ge→eK,mul_comm→rh,mod_lt→yx,div_add_mod→KO,mul_add_mod→KQ,mod_eq_of_lt→Db,eq_zero_or_pos→mY,zero_add→eR
namespace Go.Am
variable {P:Program}
def w9 (o:Oper) (σ:St) (γ:Cx) (a:Act) (K:St→Prop) (r:Result Next):Prop :=
  ∃ n x w' σ' aB,r=.ok n w'∧(n=.value x∨(n=.skip∧x=Go.undef))∧K σ'∧br σ' aB∧Fr σ.aa γ σ'.aa aB∧aB.w=w'∧aB.tmps=(a.put o.dst x).tmps
theorem aw.lit {os:List Ob} {w:World} {Z:Nat→Prop} {blk:fU} (v:Value):aw os w Z blk (.lit v) v:=.cd _ _ (.lit v)
theorem aw.cH {os:List Ob} {w:World} {Z:Nat→Prop} {blk:fU} {v cv:Value} (h:aw os w Z blk (.lit v) cv):cv=v:=by
  cases h with
  | cd _ _ h=>cases h;rfl
theorem aw.wY {os:List Ob} {w:World} {Z:Nat→Prop} {blk:fU} {sz:Nat} {rows:List (List AV)} {cv:Value} (h:aw os w Z blk (.tree sz rows) cv):gy w Z (.tree sz rows) cv:=by
  cases h with
  | cd _ _ h=>exact h
theorem aw.dY {os:List Ob} {w:World} {Z:Nat→Prop} {blk:fU} (v:Value):aw os w Z blk (dY v) v:=by
  unfold Am.dY
  split
  · rename_i cs
    refine .agg _ _ (by simp) (fun j x hx=>?_)
    simp only[bN,Array.getElem?_toList] at hx
    cases hj:cs[j]? with
    | none=>simp[hj] at hx
    | some y =>
      simp[hj] at hx
      subst hx
      simp[hj]
      exact .lit y
  · exact .lit v
theorem sN {σ:St} {γ:Cx} (h:br σ γ) {a:Act} (ha:γ.tmps=a.tmps) (x:Operand):aw σ.aa γ.w γ.Z γ.blk (ev σ x) (a.eval x):=by
  cases x with
  | tmp t=>have:=h.av t;rw[ha] at this;exact this
  | const v=>exact .dY v
  | global g=>exact .undef _
  | func f=>exact .fn f [] #[] rfl (fun j x hx=>by simp at hx)
theorem DZ {os:List Ob} {w:World} {Z:Nat→Prop} {blk:fU} {v:AV} {cv:Value} (h:aw os w Z blk v cv) (hs:cm v=true):cv.oneCell'=true:=by
  cases h with
  | undef cv=>simp[cm] at hs
  | cd v cv h=>cases h<;>first|rfl|(simpa [cm] using hs)
  | db=>rfl
  | kc id sz off len cv h h1=>exact h1
  | lU id r c cv h h1=>exact h1
  | ref=>rfl
  | lC=>rfl
  | lV=>rfl
  | mF=>rfl
  | m9=>rfl
  | agg=>simp[cm] at hs
  | bL=>simp[cm] at hs
  | fn=>rfl
  | gz=>rfl
  | gl=>rfl
  | pF id cv h h1=>exact h1
theorem qg {σ:St} {γ:Cx} (h:br σ γ) {a:Act} (ha:γ.tmps=a.tmps) {dst:Option Tmp} (hd:∀ d,dst=some d→d<a.tmps.size) {v:AV} {cv:Value}
    (hv:aw σ.aa γ.w γ.Z γ.blk v cv):br (σ.put dst v) { γ with tmps:=(a.put dst cv).tmps }:=by
  cases dst with
  | none =>
    have:({ γ with tmps:=(a.put none cv).tmps }:Cx)=γ:=by cases γ;simp_all [Act.put]
    rw[this]
    exact h
  | some d =>
    have:=h.put d (by rw[ha];exact hd d rfl) hv
    rw[ha] at this
    exact this
theorem qh (σ:St) (dst:Option Tmp) (v:AV):(σ.put dst v).aa=σ.aa:=by cases dst<;>rfl
theorem dj {o:Oper} {σ:St} {γ:Cx} {a:Act} {K:St→Prop} (h:br σ γ) (ha:γ.tmps=a.tmps) (hd:∀ d,o.dst=some d→d<a.tmps.size) {v:AV} {cv:Value}
    (hv:aw σ.aa γ.w γ.Z γ.blk v cv) (hK:K (σ.put o.dst v)) {r:Result Next} (hr:r=.ok (.value cv) γ.w):w9 o σ γ a K r :=
  ⟨.value cv,cv,γ.w,σ.put o.dst v,{ γ with tmps:=(a.put o.dst cv).tmps },hr,.inl rfl,hK,qg h ha hd hv,by rw[qh];exact (Fr.refl _ _).put _,rfl,rfl⟩
theorem yY {o:Oper} {σ σ1:St} {γ γ1:Cx} {a:Act} {K:St→Prop} (hf:Fr σ.aa γ σ1.aa γ1) (h:br σ1 γ1) (ha:γ1.tmps=a.tmps) (hd:∀ d,o.dst=some d→d<a.tmps.size) {v:AV} {cv:Value}
    (hv:aw σ1.aa γ1.w γ1.Z γ1.blk v cv) (hK:K (σ1.put o.dst v)) {r:Result Next} (hr:r=.ok (.value cv) γ1.w):w9 o σ γ a K r :=
  ⟨.value cv,cv,γ1.w,σ1.put o.dst v,{ γ1 with tmps:=(a.put o.dst cv).tmps },hr,.inl rfl,hK,qg h ha hd hv,by rw[qh];exact hf.put _,rfl,rfl⟩
theorem Hu {o:Oper} {σ σ1:St} {γ γ1:Cx} {a:Act} {K:St→Prop} (hf:Fr σ.aa γ σ1.aa γ1) (h:br σ1 γ1) (ha:γ1.tmps=a.tmps) (hd:∀ d,o.dst=some d→d<a.tmps.size)
    (hK:K (σ1.put o.dst .undef)) {r:Result Next} (hr:r=.ok .skip γ1.w):w9 o σ γ a K r :=
  ⟨.skip,Go.undef,γ1.w,σ1.put o.dst .undef,{ γ1 with tmps:=(a.put o.dst Go.undef).tmps },hr,.inr ⟨rfl,rfl⟩,hK,qg h ha hd (.undef _),by rw[qh];exact hf.put _,rfl,rfl⟩
theorem vA {k:IntKind} {n:Int} (h:k.min≤n∧n≤k.max):k.wrap n=n:=by
  cases k<;>simp[IntKind.min,IntKind.max,IntKind.signed,IntKind.bits] at h<;>simp[IntKind.wrap,IntKind.signed,IntKind.bits]<;>omega
theorem Zj {op:BinOp} {k:IntKind} {x y:Int} {K:Value→Prop} (h:fS op k x y K) (t:TypeId) (w:World) :
    ∃ v,(binOp op t (.int k x) (.int k y)).run P w=.ok v w∧K v:=by
  cases op<;>simp only[fS] at h
  case add=>exact⟨_,by simp[binOp,Op.intArith,vA h.1],h.2⟩
  case sub=>exact⟨_,by simp[binOp,Op.intArith,vA h.1],h.2⟩
  case mul=>exact⟨_,by simp[binOp,Op.intArith,vA h.1],h.2⟩
  case quo =>
    refine⟨_,?_,h.2⟩
    obtain ⟨h0,hb,hm⟩:=h.1
    have hq:x.tdiv y=x / y:=Int.tdiv_eq_ediv_of_nonneg h0
    have hle:x / y≤x:=Int.ediv_le_self _ h0
    have lE:0≤x / y:=Int.ediv_nonneg h0 (by omega)
    have hw:k.wrap (x / y)=x / y:=vA ⟨by cases k<;>simp[IntKind.min,IntKind.signed,IntKind.bits]<;>omega,by omega⟩
    have dL:¬ y=0:=by omega
    simp[binOp,Op.intDiv,dL,hq,hw]
  case rem=>exact⟨_,by simp[binOp,Op.intDiv,h.1],h.2⟩
  case and =>
    exact⟨_,by simp[binOp,Op.intBits,y9],h⟩
  case shr =>
    refine⟨_,?_,h.2⟩
    obtain ⟨h0,h1⟩:=h.1
    have:¬ y<0:=by omega
    have e:(2:Int) ^ y.toNat=((2 ^ y.toNat:Nat):Int):=by simp
    simp[binOp,Op.shift,this,Nat.min_eq_left h1]
    exact Int.fdiv_eq_ediv_of_nonneg _ (by rw[e];exact Int.natCast_nonneg _)
  case eql=>exact⟨_,by simp[binOp,Op.intCmp],h⟩
  case neq=>exact⟨_,by simp[binOp,Op.intCmp],h⟩
  case lss=>exact⟨_,by simp[binOp,Op.intCmp],h⟩
  case leq=>exact⟨_,by simp[binOp,Op.intCmp],h⟩
  case gtr=>exact⟨_,by simp[binOp,Op.intCmp],h⟩
  case geq=>exact⟨_,by simp[binOp,Op.intCmp],h⟩
theorem Ni:∀ {cs:List AV} {as:List Int},jy cs=some as→cs=as.map fun a=>.lit (.int .i64 a)
  | [],as,h=>by simp[jy] at h;subst h;rfl
  | c::cs,as,h=>by
    unfold jy at h
    split at h
    · rename_i e;simp at e
    · rename_i a r e
      simp only[List.cons.injEq] at e
      obtain ⟨rfl,rfl⟩:=e
      simp only[yv] at h
      obtain ⟨as',h,rfl⟩:=h
      rw[Ni h];rfl
    · simp at h
theorem Hk {os:List Ob} {w:World} {Z:Nat→Prop} {blk:fU} {cs:List AV} {as:List Int} {cv:Value} (h:aw os w Z blk (.agg cs) cv) (hi:jy cs=some as):cv=.agg (as.map (Value.int .i64)).toArray:=by
  have:=Ni hi
  subst this
  cases h with
  | cd _ _ h=>cases h
  | agg _ aY hs h =>
    congr 1
    refine Array.ext (by simpa using hs) (fun j h1 h2=>?_)
    have hj:j<as.length:=by simpa using h2
    have:=(h j (.lit (.int .i64 as[j])) (by simp[hj])).cH
    rw[eQ,Array.getElem?_eq_getElem h1] at this
    simpa using this
end Go.Am
namespace Go.Am
variable {P:Program}
theorem Hy {t:TypeId} (h:(ty P t).kind≠99) (w:World):(isAgg t).run P w=.ok (ty P t).isAgg w:=by
  obtain ⟨i,d,hi,hd,_⟩:=rL h
  simp only[isAgg,Sem.run_bind,run_underlying hd,Result.andThen_ok]
  have:ty P t=ty P t:=rfl
  cases d<;>simp[ty,hi,hd,Ty.isAgg]
theorem run_sizeOf {t:TypeId} (h:(ty P t).kind≠99) (w:World):(sizeOf t).run P w=.ok (ty P t).size w:=by
  obtain ⟨i,d,hi,hd,hs,_⟩:=rL h
  simp[sizeOf,typeInfo,hi,hs]
theorem Nb {t:TypeId} {z:List Value} (h:(ty P t).kind≠99) (hz:(ty P t).zero=some z) (w:World) :∃v,(zeroValue t).run P w=.ok v w∧v.cells=z.toArray:=by
  obtain ⟨i,d,hi,hd,_,_,h3⟩:=rL h
  rw[h3] at hz
  cases hv:i.zero with
  | none=>simp[hv] at hz
  | some v =>
    simp[hv] at hz
    refine⟨v,by simp[zeroValue,typeInfo,hi,hv],?_⟩
    rw[← hz]
theorem DH {σ:St} {γ:Cx} (h:br σ γ) {id r c:Nat} {cv:Value} {row:List AV} (hv:aw σ.aa γ.w γ.Z γ.blk (.ptr id r c) cv) (a6:rowOf σ id r=some row) :
    ∃ b base cap cur t o,cv=.pointer (some ⟨b,base+c,none⟩)∧γ.blk id=some (b,o,cap)∧γ.w.heap[b]?=some (.cells cur t (0,0))∧base+row.length≤cur.size ∧
      (∀ j v,row[j]?=some v→aw σ.aa γ.w γ.Z γ.blk v (cur.getD (base+j) Go.undef))∧Live σ.aa id ∧
      (∀ xi nZ,xi.length=row.length→nZ.size=cur.size→(∀ j v,xi[j]?=some v→aw σ.aa γ.w γ.Z γ.blk v (nZ.getD (base+j) Go.undef))→(∀ k,(k<base∨base+row.length≤k)→nZ.getD k Go.undef=cur.getD k Go.undef) →
        ∃ ob ob',σ.aa[id]?=some ob∧ob≠.gone∧ob.dX ob'∧(mZ σ id r xi) = { σ with aa:=σ.aa.set id ob' }∧rG σ.aa γ.w γ.Z γ.blk o cap nZ ob'):=by
  unfold rowOf at a6
  cases ho:σ.aa[id]? with
  | none=>simp[ho] at a6
  | some ob =>
    have aZ:=h.er id ob ho
    cases ob with
    | gone=>simp[ho] at a6
    | mp ag L=>simp[ho] at a6
    | var cells =>
      simp only[ho] at a6
      split at a6
      · rename_i xj
        subst xj
        simp at a6
        subst a6
        obtain ⟨b,cap,cur,t,h1,h2,h3,h4⟩:=aZ
        have a9:cv=.pointer (some ⟨b,c,none⟩):=by
          cases hv with
          | cd _ _ h=>cases h
          | lU _ _ _ _ h=>rw[ho] at h;simp at h
          | mF _ _ b' cap' cells' h hb=>rw[h1] at hb;simp at hb;simp[hb.1]
          | m9 _ _ _ sz b' o' cap' rows h hb=>rw[ho] at h;simp at h
        refine⟨b,0,cap,cur,t,0,by simpa using a9,h1,h2,by omega,fun j v hj=>by simpa using h4 j v hj,⟨_,ho,by simp⟩,?_⟩
        intro xi nZ hl hs jD _
        refine⟨.var cells,.var xi,rfl,by simp,by simp[Ob.dX,hl],by simp[mZ,ho],rfl,by omega,fun c v hc=>by simpa using jD c v hc⟩
      · simp at a6
    | arr sz rows =>
      simp only[ho] at a6
      obtain ⟨aW,cK,aZ⟩:=aZ
      have agZ:row.length=sz:=cK row (gw a6)
      have Zt:r<rows.length:=(aS.1 a6).1
      rcases aZ with ⟨_,he⟩ | ⟨b,o,cap,cur,t,h1,h2,h3,h4,h5,h6⟩
      · subst he;simp at a6
      · have a9:cv=.pointer (some ⟨b,o+(r * sz+c),none⟩):=by
          cases hv with
          | cd _ _ h=>cases h
          | lU _ _ _ _ h=>rw[ho] at h;simp at h
          | mF _ _ b' cap' cells' h hb=>rw[ho] at h;simp at h
          | m9 _ _ _ cJ b' o' cap' fT h hb=>rw[ho] at h;simp at h;rw[h1] at hb;simp at hb;simp[hb.1,hb.2.1,h.1]
        have hmul:r * sz+sz≤cap * sz:=by
          have:(r+1) * sz≤cap * sz:=mX _ (by omega)
          rw[e9] at this;omega
        refine⟨b,o+r * sz,cap,cur,t,o,by rw[a9];simp[vg],h1,h2,by omega,?_,⟨_,ho,by simp⟩,?_⟩
        · intro j v hj
          have:=h6 r j v (by simp[cellAt,a6,hj])
          simpa [vg] using this
        · intro xi nZ hl hs jD zb
          refine⟨.arr sz rows,.arr sz (rows.set r xi),rfl,by simp,by simp[Ob.dX],by simp[mZ,ho],aW,?_,by omega,by simp[h4],h5,?_⟩
          · intro x hx
            rcases List.mem_or_eq_of_mem_set hx with hx | rfl
            · exact cK x hx
            · omega
          · intro r' c' v hc
            by_cases eV:r=r'
            · subst eV
              simp only[cellAt,bS,if_true,Zt] at hc
              simp at hc
              have:=jD c' v hc
              simpa [vg] using this
            · simp only[cellAt,bS,if_neg eV] at hc
              have hold:=h6 r' c' v hc
              have jA:c'<sz:=by
                simp only[ve] at hc
                obtain ⟨x,hx,rM⟩:=hc
                have:=cK x (gw hx)
                have:=(aS.1 rM).1
                omega
              rw[zb _ ?_]
              · exact hold
              · rcases Nat.lt_or_gt_of_ne eV with bj | xl
                · right
                  have:(r+1) * sz≤r' * sz:=mX _ (by omega)
                  rw[e9] at this;omega
                · left
                  have:(r'+1) * sz≤r * sz:=mX _ (by omega)
                  rw[e9] at this;omega
theorem Addr.qy (b o n:Nat):(⟨b,o,none⟩:Addr).add n=⟨b,o+n,none⟩:=by
  unfold Go.Addr.add;split<;>simp_all
theorem yS {w:World} {b j:Nat} {cur:Array Value} {t:TypeId} {fr:Nat × Nat} (h:w.heap[b]?=some (.cells cur t fr)) (hj:j<cur.size):w.cell? ⟨b,j,none⟩=some (cur.getD j Go.undef):=by
  simp[World.cell?,h,hj,eQ]
theorem D0 {w:World} {t:TypeId} (hk:(ty P t).kind≠99) (b o:Nat) (f:Nat→Value)
    (hc:∀ j,j<(if (ty P t).isAgg then (ty P t).size else 1)→w.cell? ⟨b,o+j,none⟩=some (f j)) :
    (loadVar t ⟨b,o,none⟩).run P w=.ok (if (ty P t).isAgg then .agg ((aT (ty P t).size).map f).toArray else f 0) w:=by
  simp only[loadVar,Sem.run_bind,Hy hk,Result.andThen_ok]
  by_cases ha:(ty P t).isAgg=true
  · simp only[ha,if_true,Sem.run_bind,run_sizeOf hk,Result.andThen_ok]
    rw[run_loadCells w ⟨b,o,none⟩ _ f (fun j hj=>by rw[Addr.qy];exact hc j (by simpa [ha] using hj))]
    rfl
  · have mM:=hc 0 (by simp[ha])
    simp only[g7] at mM
    simp[ha,mM]
end Go.Am
namespace Go.Am
variable {P:Program}
theorem Hs (cs:List AV):∀ (row:List AV) (c:Nat),(setCells row c cs).length=row.length:=by
  induction cs with
  | nil=>intro row c;rfl
  | cons v vs ih=>intro row c;simp[setCells,ih]
theorem Nj (cs:List AV):∀ (row:List AV) (c:Nat),c+cs.length≤row.length→∀ j,(setCells row c cs)[j]?=if c≤j∧j<c+cs.length then cs[j - c]? else row[j]?:=by
  induction cs with
  | nil=>intro row c _ j;simp[setCells];intro h1 h2;omega
  | cons v vs ih =>
    intro row c hl j
    simp only[dH] at hl
    simp only[setCells,dH]
    rw[ih (row.set c v) (c+1) (by simp;omega) j]
    by_cases h1:c+1≤j∧j<c+1+vs.length
    · rw[if_pos h1,if_pos (by omega)]
      have:j - c=(j - (c+1))+1:=by omega
      rw[this];simp
    · rw[if_neg h1]
      by_cases h2:j=c
      · subst h2
        rw[if_pos (by omega)]
        simp[show j<row.length by omega]
      · rw[if_neg (by omega),List.getElem?_set_ne (Ne.symm h2)]
theorem Ho {os:List Ob} {w:World} {Z:Nat→Prop} {blk:fU} {v:AV} {cv:Value} (h:aw os w Z blk v cv) (hs:(cellsOf v).all cm=true) :
    cv.cells.size=(cellsOf v).length∧(∀ j x,(cellsOf v)[j]?=some x→aw os w Z blk x (cv.cells.getD j Go.undef))∧∀ c∈cv.cells,c.oneCell'=true:=by
  by_cases jN :∃cs,v=.agg cs
  · obtain ⟨cs,rfl⟩:=jN
    simp only[cellsOf] at hs ⊢
    cases h with
    | cd _ _ h=>cases h
    | agg _ aY aW jD =>
      refine⟨aW,jD,?_⟩
      intro c hc
      simp only[Value.cells] at hc
      obtain ⟨j,hj,rfl⟩:=Array.mem_iff_getElem.1 hc
      have hx:cs[j]?=some cs[j]:=by simp[← aW,hj]
      have:=jD j _ hx
      have hg:aY.getD j Go.undef=aY[j]:=by simp[eQ,hj]
      rw[hg] at this
      exact DZ this (by rw[fK] at hs;exact hs _ (gw hx))
  · have n5:cellsOf v=[v]:=by
      unfold cellsOf;split
      · exact absurd ⟨_,rfl⟩ jN
      · rfl
    rw[n5] at hs ⊢
    simp at hs
    have ho:=DZ h hs
    have aO:cv.cells = #[cv]:=by cases cv<;>first|rfl|simp[Value.oneCell'] at ho
    rw[aO]
    refine⟨rfl,?_,by simp[ho]⟩
    intro j x hx
    cases j with
    | zero=>simp at hx;subst hx;simpa using h
    | succ j=>simp at hx
section
variable {o:Oper} {σ:St} {γ:Cx} {a:Act} {K:St→Prop}
theorem G9 (hs:br σ γ) {t:TypeId} (hk:(ty P t).kind≠99) {id r c:Nat} {cv:Value} (hv:aw σ.aa γ.w γ.Z γ.blk (.ptr id r c) cv)
    {row:List AV} (a6:rowOf σ id r=some row) {K:AV→Prop} (h:lB (ty P t) row c K) :
    ∃ v nW,(Instr.loadAt t cv).run P γ.w=.ok nW γ.w∧aw σ.aa γ.w γ.Z γ.blk v nW∧K v:=by
  obtain ⟨b,base,cap,cur,tt,o,rfl,hb,jC,aW,jD,_,_⟩:=DH hs hv a6
  unfold lB at h
  simp only[Instr.loadAt,Instr.sureAddr,Sem.run_bind,Sem.run_pure,Result.andThen_ok]
  by_cases jN:(ty P t).isAgg=true
  · rw[if_pos jN] at h
    refine⟨_,_,D0 hk b (base+c) (fun j=>cur.getD (base+c+j) Go.undef) ?_,?_,h.2⟩
    · intro j hj
      rw[if_pos jN] at hj
      exact yS jC (by omega)
    · rw[if_pos jN]
      refine .agg _ _ (by simp;omega) (fun j x hx=>?_)
      have hj:j<(ty P t).size:=by have:=(aS.1 hx).1;simp at this;omega
      rw[sv,if_pos hj,nI] at hx
      have:=jD _ _ hx
      simp[eQ,hj]
      simpa [vg,eQ] using this
  · rw[if_neg jN] at h
    cases hc:row[c]? with
    | none=>simp[hc] at h
    | some v =>
      simp only[hc] at h
      have ca:=(aS.1 hc).1
      refine⟨v,_,D0 hk b (base+c) (fun j=>cur.getD (base+c+j) Go.undef) ?_,?_,h⟩
      · intro j hj
        rw[if_neg jN] at hj
        exact yS jC (by omega)
      · rw[if_neg jN]
        exact jD _ _ hc
theorem Zh (_hs:br σ γ) {t:TypeId} (hk:(ty P t).kind≠99) {cells:List AV} {cv:Value} (hv:aw σ.aa γ.w γ.Z γ.blk (.db cells) cv)
    {K:AV→Prop} (h:lB (ty P t) cells 0 K) :
    ∃ v nW,(Instr.loadAt t cv).run P γ.w=.ok nW γ.w∧aw σ.aa γ.w γ.Z γ.blk v nW∧K v:=by
  cases hv with
  | cd _ _ h=>cases h
  | db _ b o f hz hc ht =>
  unfold lB at h
  simp only[Instr.loadAt,Instr.sureAddr,Sem.run_bind,Sem.run_pure,Result.andThen_ok]
  by_cases jN:(ty P t).isAgg=true
  · rw[if_pos jN] at h
    have hlen:(ty P t).size≤cells.length:=by omega
    refine⟨_,_,D0 hk b o f ?_,?_,h.2⟩
    · intro j hj
      rw[if_pos jN] at hj
      exact hc j cells[j] (by simp)
    · rw[if_pos jN]
      refine .agg _ _ (by simp;omega) (fun j x hx=>?_)
      have hj:j<(ty P t).size:=by have:=(aS.1 hx).1;simp at this;omega
      rw[sv,if_pos hj,nI] at hx
      simp at hx
      simp[eQ,hj]
      exact .cd _ _ (ht j x hx)
  · rw[if_neg jN] at h
    cases aO:cells[0]? with
    | none=>simp[aO] at h
    | some v =>
      simp only[aO] at h
      refine⟨v,_,D0 hk b o f ?_,?_,h⟩
      · intro j hj
        rw[if_neg jN] at hj
        have:j=0:=by omega
        subst this
        exact hc 0 v aO
      · rw[if_neg jN]
        exact .cd _ _ (ht 0 v aO)
theorem Ba (cur:Array Value) (p:Nat) (vs:List Value) (hp:p+vs.length≤cur.size) (k:Nat) :
    ((cur.toList.take p++vs++cur.toList.drop (p+vs.length)).toArray).getD k Go.undef=if p≤k∧k<p+vs.length then vs.getD (k - p) Go.undef else cur.getD k Go.undef:=by
  simp only[eQ,Gi,ay]
  by_cases h1:k<p
  · rw[if_neg (by omega),cI,cj (by simp;omega),sv,if_pos h1]
    simp
  · by_cases h2:k<p+vs.length
    · rw[if_pos (by omega),cj (by simp;omega),eE (by simp;omega)]
      simp;congr 3;omega
    · rw[if_neg (by omega),eE (by simp;omega)]
      simp;congr 3;omega
theorem setRow_size (w:World) (g:Nat) (cs:Array Value):(w.setRow g cs).heap.size=w.heap.size:=by simp[World.setRow]
theorem Zi (hs:br σ γ) {t:TypeId} (hk:(ty P t).kind≠99) {id r c:Nat} {cv xv:Value} (hv:aw σ.aa γ.w γ.Z γ.blk (.ptr id r c) cv)
    {row:List AV} (a6:rowOf σ id r=some row) {v:AV} (hx:aw σ.aa γ.w γ.Z γ.blk v xv)
    (h:(cellsOf v).length=(ty P t).size∧c+(ty P t).size≤row.length∧(cellsOf v).all cm=true) :
    ∃ w',(Instr.storeAt t cv xv).run P γ.w=.ok () w'∧br (mZ σ id r (setCells row c (cellsOf v))) { γ with w:=w' }∧Fr σ.aa γ (mZ σ id r (setCells row c (cellsOf v))).aa { γ with w:=w' }:=by
  obtain ⟨b,base,cap,cur,tt,o,rfl,hb,jC,aW,jD,nY,zd⟩:=DH hs hv a6
  obtain ⟨h1,h2,h3⟩:=h
  obtain ⟨e1,e2,e3⟩:=Ho hx h3
  have hlen:xv.cells.toList.length=(ty P t).size:=by simp[e1,h1]
  have eF:(Instr.storeAt t (.pointer (some ⟨b,base+c,none⟩)) xv).run P γ.w=.ok () (γ.w.setRow b (cur.toList.take (base+c)++xv.cells.toList++cur.toList.drop (base+c+xv.cells.toList.length)).toArray):=by
    have dP:=run_storeCells_at P b (base+c) tt xv.cells.toList 0 cur γ.w jC (by rw[hlen];omega) (fun x hx=>e3 x (by simpa using hx))
    simp only[g7] at dP
    simp only[Instr.storeAt,Instr.sureAddr,Sem.run_bind,Sem.run_pure,Result.andThen_ok,storeVar,run_sizeOf hk]
    have:¬ (xv.cells.size≠(ty P t).size):=by rw[e1,h1];simp
    rw[if_neg this]
    simpa using dP
  obtain ⟨ob,ob',g1,g2,g3,g4,g5⟩:=zd (setCells row c (cellsOf v)) (cur.toList.take (base+c)++xv.cells.toList++cur.toList.drop (base+c+xv.cells.toList.length)).toArray
    (Hs _ _ _) (by simp[hlen];omega) (by
      intro j x hj
      rw[Nj _ _ _ (by rw[h1];exact h2)] at hj
      rw[Ba cur (base+c) xv.cells.toList (by rw[hlen];omega),hlen]
      by_cases gp:c≤j∧j<c+(cellsOf v).length
      · rw[if_pos gp] at hj
        rw[if_pos (by omega)]
        have:=e2 _ _ hj
        have e:base+j - (base+c)=j - c:=by omega
        rw[e]
        simpa [ay,eQ] using this
      · rw[if_neg gp] at hj
        rw[if_neg (by omega)]
        exact jD j x hj) (by
      intro k aP
      rw[Ba cur (base+c) xv.cells.toList (by rw[hlen];omega),hlen]
      rw[if_neg (by omega)])
  refine⟨_,eF,?_,?_⟩
  · rw[g4]
    exact hs.write g1 g2 g3 hb (setRow_heap γ.w b cur _ tt _ jC) (fun k hk=>setRow_other γ.w b k _ hk) (setRow_size _ _ _) g5
  · rw[g4]
    exact Fr.write ob' g1 g2 g3 hb (fun k hk=>setRow_other γ.w b k _ hk) (setRow_size _ _ _) rfl rfl rfl
end
end Go.Am
namespace Go.Am
variable {P:Program}
theorem br.w7 {σ:St} {γ:Cx} (h:br σ γ) {sz:Nat} (aW:0<sz) :
    br { σ with aa:=σ.aa++[.arr sz []] } { γ with blk:=cL γ.blk σ.aa.length none }:=by
  have hR:∀ v cv,aw σ.aa γ.w γ.Z γ.blk v cv→aw (σ.aa++[.arr sz []]) γ.w γ.Z (cL γ.blk σ.aa.length none) v cv:=fun v cv hv =>
    hv.mono (fun b hb=>⟨hb,rfl⟩) (fun i o ho=>by
      have hi:i<σ.aa.length:=(aS.1 ho).1
      have cf:(σ.aa++[.arr sz []])[i]?=some o:=by rw[cj hi];exact ho
      by_cases bD:o=.gone
      · subst bD;exact .inl cf
      · exact .inr ⟨by simp[cL,lv hi],o,cf,Ob.jB bD⟩)
  have cq:∀ i b,cL γ.blk σ.aa.length none i=some b→Live (σ.aa++[.arr sz []]) i→Live σ.aa i∧γ.blk i=some b:=by
    rintro i b hb ⟨o,ho,bD⟩
    simp only[cL] at hb
    split at hb
    · simp at hb
    · rename_i dL
      have hi:i<σ.aa.length:=by have:=(aS.1 ho).1;simp at this;omega
      rw[cj hi] at ho
      exact⟨⟨o,ho,bD⟩,hb⟩
  refine⟨fun k=>hR _ _ (h.av k),?_,?_,?_,h.gB⟩
  · intro i o ho
    rcases eK i σ.aa.length with hi | hi
    · rw[cj hi] at ho
      exact (h.er i o ho).mono hR (by simp[cL,lv hi]) (fun _ _ _ _=>rfl)
    · have hi':i=σ.aa.length:=by have:=(aS.1 ho).1;simp at this;omega
      subst hi'
      simp at ho
      subst ho
      exact⟨aW,by simp,.inl ⟨by simp[cL],rfl⟩⟩
  · intro i j b o c o' c' hi hj fM gn
    obtain ⟨ze,lZ⟩:=cq i _ fM hi
    obtain ⟨Hz,Bb⟩:=cq j _ gn hj
    exact h.inj i j b o c o' c' ze Hz lZ Bb
  · rintro b ⟨i,o,c,hi,hb⟩
    obtain ⟨ze,lZ⟩:=cq i _ hb hi
    exact h.nz b ⟨i,o,c,ze,lZ⟩
theorem Fr.w7 (os:List Ob) (γ:Cx) (sz:Nat):Fr os γ (os++[.arr sz []]) { γ with blk:=cL γ.blk os.length none } where
  lT:=rfl
  tape:=rfl
  output:=rfl
  size:=Nat.le_refl _
  fC:=fun _ _ _=>rfl
  z0:=fun _ h=>h
  z1:=fun _ h=>.inl h
  own:=by
    rintro b ⟨i,o,c,⟨x,hx,dD⟩,hb⟩
    simp only[cL] at hb
    split at hb
    · simp at hb
    · have hi:i<os.length:=by have:=(aS.1 hx).1;simp at this;omega
      rw[cj hi] at hx
      exact .inl ⟨i,o,c,⟨x,hx,dD⟩,hb⟩
  len:=by simp
  kG:=by
    rintro i hi ⟨x,hx,dD⟩
    have hx0:=hx
    rw[cj hi] at hx
    exact⟨by simp[cL,lv hi],x,x,hx,hx0,Ob.jB dD⟩
theorem br.Bd {σ:St} {γ:Cx} (h:br σ γ) {id:Nat} {ob ob':Ob} (ho:σ.aa[id]?=some ob) (hg:ob≠.gone) {b o cap o' cap':Nat} (hb:γ.blk id=some (b,o,cap))
    {w':World} {cur:Array Value} {t:TypeId} (hw:w'.heap[b]?=some (.cells cur t (0,0))) (nh:∀ k,k≠b→w'.heap[k]?=γ.w.heap[k]?) (aW:w'.heap.size=γ.w.heap.size)
    (aZ:rG σ.aa γ.w γ.Z γ.blk o' cap' cur ob') :
    br { σ with aa:=σ.aa.set id .gone++[ob'] } { γ with w:=w',blk:=cL γ.blk σ.aa.length (some (b,o',cap')) }:=by
  have cN:id<σ.aa.length:=(aS.1 ho).1
  have nY:Live σ.aa id:=⟨ob,ho,hg⟩
  have hR:∀ v cv,aw σ.aa γ.w γ.Z γ.blk v cv→aw (σ.aa.set id .gone++[ob']) w' γ.Z (cL γ.blk σ.aa.length (some (b,o',cap'))) v cv:=fun v cv hv =>
    hv.mono (fun z hz=>⟨hz,nh z (fun e=>h.nz b ⟨id,o,cap,nY,hb⟩ (e ▸ hz))⟩) (fun i x hx=>by
      have hi:i<σ.aa.length:=(aS.1 hx).1
      rw[cj (by simpa using hi),bS]
      by_cases lX:id=i
      · left;simp[lX,hi]
      · rw[if_neg lX]
        by_cases bD:x=.gone
        · subst bD;exact .inl hx
        · exact .inr ⟨by simp[cL,lv hi],x,hx,Ob.jB bD⟩)
  have cq:∀ i,Live (σ.aa.set id .gone++[ob']) i→i=σ.aa.length∨(i<σ.aa.length∧i≠id∧Live σ.aa i):=by
    rintro i ⟨x,hx,dD⟩
    rcases eK i σ.aa.length with hi | hi
    · right
      rw[cj (by simpa using hi),bS] at hx
      split at hx
      · simp at hx;exact absurd hx.symm dD
      · rename_i dL
        exact⟨hi,Ne.symm dL,x,hx,dD⟩
    · left
      have:=(aS.1 hx).1
      simp at this;omega
  refine⟨fun k=>hR _ _ (h.av k),?_,?_,?_,fun z hz=>by rw[aW];exact h.gB z hz⟩
  · intro i x hx
    rcases eK i σ.aa.length with hi | hi
    · rw[cj (by simpa using hi),bS] at hx
      split at hx
      · simp at hx;subst hx;trivial
      · rename_i dL
        by_cases bD:x=.gone
        · subst bD;trivial
        · refine (h.er i x hx).mono hR (by simp[cL,lv hi]) (fun z y c hz=>nh z (fun e=>dL ?_))
          subst e
          exact h.inj id i z o cap y c nY ⟨x,hx,bD⟩ hb hz
    · have hi':i=σ.aa.length:=by have:=(aS.1 hx).1;simp at this;omega
      subst hi'
      rw[eE (by simp)] at hx
      simp at hx
      subst hx
      exact aZ.HA (b:=b) (cap:=cap') hR (by simp[cL]) hw
  · intro i j z y c y' c' hi hj fM gn
    simp only[cL] at fM gn
    rcases cq i hi with rfl | ⟨fi,Nk,hi'⟩<;>rcases cq j hj with rfl | ⟨kZ,Zu,dZ⟩
    · rfl
    · rw[if_pos rfl] at fM
      rw[if_neg (lv kZ)] at gn
      simp at fM
      rw[← fM.1] at gn
      exact absurd (h.inj j id b y' c' o cap dZ nY gn hb) Zu
    · rw[if_pos rfl] at gn
      rw[if_neg (lv fi)] at fM
      simp at gn
      rw[← gn.1] at fM
      exact absurd (h.inj i id b y c o cap hi' nY fM hb) Nk
    · rw[if_neg (lv fi)] at fM
      rw[if_neg (lv kZ)] at gn
      exact h.inj i j z y c y' c' hi' dZ fM gn
  · rintro z ⟨i,y,c,hi,hz⟩ mL
    simp only[cL] at hz
    rcases cq i hi with rfl | ⟨fi,Nk,hi'⟩
    · rw[if_pos rfl] at hz
      simp at hz
      rw[← hz.1] at mL
      exact h.nz b ⟨id,o,cap,nY,hb⟩ mL
    · rw[if_neg (lv fi)] at hz
      exact h.nz z ⟨i,y,c,hi',hz⟩ mL
theorem Fr.Bd {σ:St} {γ:Cx} {id:Nat} {ob:Ob} (ob':Ob) (ho:σ.aa[id]?=some ob) (hg:ob≠.gone) {b o cap o' cap':Nat} (hb:γ.blk id=some (b,o,cap))
    {w':World} (nh:∀ k,k≠b→w'.heap[k]?=γ.w.heap[k]?) (aW:w'.heap.size=γ.w.heap.size) (h1:w'.os=γ.w.os) (h2:w'.tape=γ.w.tape) (h3:w'.output=γ.w.output) :
    Fr σ.aa γ (σ.aa.set id .gone++[ob']) { γ with w:=w',blk:=cL γ.blk σ.aa.length (some (b,o',cap')) } where
  lT:=h1
  tape:=h2
  output:=h3
  size:=by simp[aW]
  fC:=fun z _ lW=>nh z (fun e=>lW ⟨id,o,cap,⟨ob,ho,hg⟩,e ▸ hb⟩)
  z0:=fun _ h=>h
  z1:=fun _ h=>.inl h
  own:=by
    rintro z ⟨i,y,c,⟨x,hx,dD⟩,hz⟩
    simp only[cL] at hz
    split at hz
    · simp at hz
      left
      exact⟨id,o,cap,⟨ob,ho,hg⟩,by rw[hb,hz.1]⟩
    · have hi:i<σ.aa.length:=by have:=(aS.1 hx).1;simp at this;omega
      rw[cj (by simpa using hi),bS] at hx
      split at hx
      · split at hx<;>simp at hx;exact absurd hx.symm dD
      · exact .inl ⟨i,y,c,⟨x,hx,dD⟩,hz⟩
  len:=by simp
  kG:=by
    rintro i hi ⟨x,hx,dD⟩
    have hx0:=hx
    rw[cj (by simpa using hi),bS] at hx
    split at hx
    · split at hx<;>simp at hx;exact absurd hx.symm dD
    · exact⟨by simp[cL,lv hi],x,x,hx,hx0,Ob.jB dD⟩
theorem Nl {σ:St} {γ:Cx} (h:br σ γ) {x:AV} {cv:Value} (hv:aw σ.aa γ.w γ.Z γ.blk x cv) {sz:Nat} (aW:0<sz) {src:List (List AV)} (hs:m4 σ x=some (sz,src)) :
    ∃ ad c,∃ g:Nat→Value,cv=.slice ad src.length c∧(∀ row∈src,row.length=sz)∧(0<src.length→∃ b o,ad=some ⟨b,o,none⟩∧∀ j,j<src.length * sz→γ.w.cell? ⟨b,o+j,none⟩=some (g j)) ∧
      ∀ r c v,cellAt src r c=some v→aw σ.aa γ.w γ.Z γ.blk v (g (r * sz+c)):=by
  cases x with
  | tree cJ rows =>
    simp[m4] at hs
    obtain ⟨rfl,rfl⟩:=hs
    cases hv.wY with
    | nil _ cap a=>exact⟨a,cap,fun _=>Go.undef,rfl,by simp,by simp,by simp[cellAt]⟩
    | tree _ _ b o cap f hz hr Be hc ht =>
      refine⟨_,cap,fun j=>f (j / cJ) (j % cJ),rfl,hr,fun hlen=>⟨b,o,rfl,?_⟩,?_⟩
      · intro j hj
        have h1:j / cJ<rows.length:=Nat.div_lt_of_lt_mul (by rw[rh];exact hj)
        have h2:j % cJ<cJ:=yx _ aW
        have cK:(rows[j / cJ]).length=cJ:=hr _ (tP h1)
        have:=hc (j / cJ) (j % cJ) ((rows[j / cJ])[j % cJ]'(by omega)) (by simp[cellAt,h1,h2,cK])
        have e:j / cJ * cJ+j % cJ=j:=by rw[rh];exact KO j cJ
        rw[e] at this
        exact this
      · intro r c v a9
        have ca:c<cJ:=by
          simp only[cellAt,ve] at a9
          obtain ⟨y,hy,oV⟩:=a9
          have:=hr y (gw hy)
          have:=(aS.1 oV).1
          omega
        have e1:(r * cJ+c) / cJ=r:=by rw[rh,Nat.mul_add_div aW,Nat.div_eq_of_lt ca];rfl
        have e2:(r * cJ+c) % cJ=c:=by rw[rh,KQ,Db ca]
        simp only[e1,e2]
        exact .cd _ _ (ht r c v a9)
  | ref id cJ off len =>
    simp only[m4] at hs
    cases ho:σ.aa[id]? with
    | none=>simp[ho] at hs
    | some ob =>
      have aZ:=h.er id ob ho
      cases ob with
      | gone=>simp[ho] at hs
      | mp ag L=>simp[ho] at hs
      | var cells=>simp[ho] at hs
      | arr j8 rows =>
        simp only[ho] at hs
        split at hs
        · rename_i he
          subst he
          simp at hs
          obtain ⟨rfl,rfl⟩:=hs
          obtain ⟨_,cK,aZ⟩:=aZ
          cases hv with
          | cd _ _ h=>cases h
          | kc _ _ _ _ _ h=>rw[ho] at h;simp at h
          | lC _ _ h hb =>
            rw[ho] at h;simp at h;subst h
            exact⟨none,0,fun _=>Go.undef,rfl,by simp,by simp,by simp[cellAt]⟩
          | lV _ _ _ b x bo fT h hb hl =>
            exact⟨some ⟨b,x,none⟩,0,fun _=>Go.undef,by simp,by simp,by simp,by simp[cellAt]⟩
          | ref _ _ _ _ b o cap cap' fT h hb hl hc j6 =>
            rw[ho] at h;simp at h
            subst h
            rcases aZ with ⟨h1,_⟩ | ⟨b',o',AR,cur,t,h1,h2,h3,h4,h5,h6⟩
            · rw[hb] at h1;simp at h1
            · rw[hb] at h1;simp at h1
              obtain ⟨rfl,rfl,rfl⟩:=h1
              have hlen:((rows.drop off).take len).length=len:=by simp;omega
              refine⟨_,cap',fun j=>cur.getD (o+off * j8+j) Go.undef,by rw[hlen],?_,fun _=>⟨b,o+off * j8,rfl,?_⟩,?_⟩
              · intro row a6
                exact cK row (tS (p8 a6))
              · intro j hj
                rw[hlen] at hj
                refine yS h2 ?_
                have:(off+len) * j8≤cap * j8:=mX _ (by omega)
                rw[e9] at this
                omega
              · intro r c v a9
                simp only[cellAt,sv,nI] at a9
                split at a9
                · have:=h6 (off+r) c v a9
                  rw[e9] at this
                  have e:o+(off * j8+r * j8+c)=o+off * j8+(r * j8+c):=by omega
                  rw[e] at this
                  exact this
                · simp at a9
        · simp at hs
  | _=>simp[m4] at hs
end Go.Am
namespace Go.Am
variable {P:Program}
theorem AS {rows:List (List AV)} {sz r c:Nat} {v:AV} (hr:∀ row∈rows,row.length=sz) (h:cellAt rows r c=some v):r<rows.length∧c<sz:=by
  simp only[cellAt,ve] at h
  obtain ⟨y,hy,oV⟩:=h
  have h1:=hr y (gw hy)
  have h2:=(aS.1 oV).1
  have h3:=(aS.1 hy).1
  omega
theorem Nn {p s:List (List AV)} {r c:Nat}:cellAt (p++s) r c=if r<p.length then cellAt p r c else cellAt s (r - p.length) c:=by
  unfold cellAt
  split
  · rw[cj (by assumption)]
  · rw[eE (by omega)]
theorem wZ {r c n sz:Nat} (hr:r<n) (hc:c<sz):r * sz+c<n * sz:=by
  have:(r+1) * sz≤n * sz:=mX _ hr
  rw[e9] at this;omega
theorem Zv {R:AV→Value→Prop} {p s:List (List AV)} {sz:Nat} (hp:∀ row∈p,row.length=sz) (hs:∀ row∈s,row.length=sz) {go g:Nat→Value}
    (h1:∀ r c v,cellAt p r c=some v→R v (go (r * sz+c))) (h2:∀ r c v,cellAt s r c=some v→R v (g (r * sz+c))) (rest:List Value)
    (r c:Nat) (v:AV) (h:cellAt (p++s) r c=some v) :
    R v (((((aT (p.length * sz)).map go)++((aT (s.length * sz)).map g))++rest).toArray.getD (r * sz+c) Go.undef):=by
  rw[Nn] at h
  simp only[eQ,Gi]
  split at h
  · obtain ⟨hr,hc⟩:=AS hp h
    have:=wZ hr hc
    rw[cI,cj (by simpa using this)]
    simp[this]
    exact h1 r c v h
  · rename_i lE
    obtain ⟨hr,hc⟩:=AS hs h
    have hl:=wZ hr hc
    have e:r * sz+c=p.length * sz+((r - p.length) * sz+c):=by
      have:r=p.length+(r - p.length):=by omega
      conv=>lhs;rw[this,e9]
      omega
    rw[cj (by simp;omega),eE (by simp;omega)]
    have e2:r * sz+c - (List.map go (aT (p.length * sz))).length=(r - p.length) * sz+c:=by simp;omega
    rw[e2]
    simp[hl]
    exact h2 _ _ _ h
theorem Zw {σ:St} {γ:Cx} (h:br σ γ) {x:AV} {cv:Value} (hv:aw σ.aa γ.w γ.Z γ.blk x cv) {sz:Nat} {pre:List (List AV)} {σ1:St} (hs:pE σ sz x=some (pre,σ1)) :
    (br σ1 γ∧Fr σ.aa γ σ1.aa γ∧∃ k,σ1.aa.length=k) ∧
    ((cv=.slice none 0 0∧pre=[]) ∨
     (∃ id b x bo cur t,cv=.slice (some ⟨b,x,none⟩) 0 0∧pre=[]∧Live σ.aa id∧σ1 = { σ with aa:=σ.aa.set id .gone }∧γ.blk id=some (b,bo)∧γ.w.heap[b]?=some (.cells cur t (0,0))) ∨
     ∃ id off rows b o cap cap' cur t,σ.aa[id]?=some (.arr sz rows)∧σ1 = { σ with aa:=σ.aa.set id .gone }∧γ.blk id=some (b,o,cap)∧γ.w.heap[b]?=some (.cells cur t (0,0)) ∧
      cv=.slice (some ⟨b,o+off * sz,none⟩) pre.length cap'∧pre.length≤cap'∧cap'≤maxLen∧o+off * sz+cap' * sz≤cur.size∧(∀ row∈pre,row.length=sz) ∧
      ∀ r c v,cellAt pre r c=some v→aw σ.aa γ.w γ.Z γ.blk v (cur.getD (o+off * sz+(r * sz+c)) Go.undef)):=by
  unfold pE at hs
  split at hs
  · simp at hs
    obtain ⟨rfl,rfl⟩:=hs
    exact⟨⟨h,Fr.refl _ _,_,rfl⟩,.inl ⟨hv.cH,rfl⟩⟩
  · rename_i id cJ off len
    cases ho:σ.aa[id]? with
    | none=>simp[ho] at hs
    | some ob =>
      have aZ:=h.er id ob ho
      cases ob with
      | gone=>simp[ho] at hs
      | mp ag L=>simp[ho] at hs
      | var cells=>simp[ho] at hs
      | arr j8 rows =>
        simp only[ho] at hs
        split at hs
        · rename_i he
          obtain ⟨Np,sO⟩:=he
          subst Np
          subst sO
          simp at hs
          obtain ⟨rfl,rfl⟩:=hs
          refine⟨⟨h.kill id,Fr.kill _ _ _,_,rfl⟩,?_⟩
          obtain ⟨_,cK,aZ⟩:=aZ
          cases hv with
          | cd _ _ h=>cases h
          | kc _ _ _ _ _ h=>rw[ho] at h;simp at h
          | lC _ _ h hb=>left;exact⟨rfl,by simp⟩
          | lV _ _ _ b x bo fT h' hb hl =>
            right;left
            rcases aZ with ⟨h1,_⟩ | ⟨b',o',AR,cur,t,h1,h2,_⟩
            · rw[hb] at h1;simp at h1
            · rw[hb] at h1;simp at h1
              obtain ⟨rfl,_⟩:=h1
              exact⟨id,b,x,bo,cur,t,rfl,by simp,⟨_,ho,by simp⟩,rfl,hb,h2⟩
          | ref _ _ _ _ b o cap cap' fT h' hb hl hc j6 =>
            rw[ho] at h';simp at h'
            subst h'
            rcases aZ with ⟨h1,_⟩ | ⟨b',o',AR,cur,t,h1,h2,h3,h4,h5,h6⟩
            · rw[hb] at h1;simp at h1
            · rw[hb] at h1;simp at h1
              obtain ⟨rfl,rfl,rfl⟩:=h1
              right;right
              have hlen:((rows.drop off).take len).length=len:=by simp;omega
              refine⟨id,off,rows,b,o,cap,cap',cur,t,ho,rfl,hb,h2,by rw[hlen],by omega,by omega,?_,?_,?_⟩
              · have:(off+cap') * j8≤cap * j8:=mX _ hc
                rw[e9] at this;omega
              · intro row a6
                exact cK row (tS (p8 a6))
              · intro r c v a9
                simp only[cellAt,sv,nI] at a9
                split at a9
                · have:=h6 (off+r) c v a9
                  rw[e9] at this
                  have e:o+(off * j8+r * j8+c)=o+off * j8+(r * j8+c):=by omega
                  rw[e] at this
                  exact this
                · simp at a9
        · simp at hs
  · simp at hs
theorem Zx (w:World) (t Zy e:TypeId) (i:TypeInfo) (ht:P.underlying t=some (.slice e)) (hi:P.info? e=some i)
    (g o xn HB:Nat) (cur:Array Value) (tt:TypeId) (hg:w.heap[g]?=some (.cells cur tt (0,0)))
    (xa:Option Addr) (m c:Nat) (news:List Value) (hl:news.length=m * i.size) (vB:0<m→∃ a,xa=some a∧∀ j u,news[j]?=some u→w.cell? (a.add j)=some u) (h1:∀ u∈news,u.oneCell'=true)
    (zf:xn+m≤HB) (ec:o+xn * i.size+news.length≤cur.size) :
    (Builtin.append_ #[t,t] Zy #[.slice (some ⟨g,o,none⟩) xn HB,.slice xa m c]).run P w =
      .ok (.slice (some ⟨g,o,none⟩) (xn+m) HB) (w.setRow g (cur.toList.take (o+xn * i.size)++news++cur.toList.drop (o+xn * i.size+news.length)).toArray):=by
  have hf:(Builtin.firstCells i.size m (.slice xa m c)).run P w=.ok news.toArray w:=by
    rcases mY m with h0 | hp
    · subst h0
      have hn:news=[]:=p7 (by simpa using hl)
      subst hn
      cases xa<;>simp[Builtin.firstCells,loadCells,loadCellsFrom]
    · obtain ⟨a,rfl,hc⟩:=vB hp
      exact run_firstCells_some w i.size m a m c news hl hc
  have dP:=run_storeCells_at P g (o+xn * i.size) tt news 0 cur w hg (by simpa using ec) h1
  simp only[g7] at dP
  simp[Builtin.append_,run_underlying ht,sizeOf,typeInfo,hi,Builtin.lenOf,zf,hf,Addr.qy,dP]
theorem zg {g:Nat→Value} {n j:Nat} {u:Value} (h:((aT n).map g)[j]?=some u):j<n∧u=g j:=by
  have hj:=(aS.1 h).1
  simp at hj
  simp[hj] at h
  exact⟨hj,h.symm⟩
theorem Zq {σ σ1:St} {γ:Cx} (h:br σ γ) {t oty:TypeId} {sz:Nat} {z:List Value} (hk:(ty P t).kind=1) (dW:(ty P (ty P t).elem).kind≠99) (hz:(ty P (ty P t).elem).zero=some z)
    (aW:sz=(ty P (ty P t).elem).size) (h0:0<sz) (kf:z.length=sz) {sD x:AV} {qz Bf:Value} (hS:aw σ.aa γ.w γ.Z γ.blk sD qz) (hX:aw σ.aa γ.w γ.Z γ.blk x Bf)
    {pre src:List (List AV)} (hd:pE σ sz sD=some (pre,σ1)) (rF:m4 σ x=some (sz,src)) (hlen:pre.length+src.length≤549755813888) (A8:(ty P (ty P t).elem).bytes≤128)
    (lY:(src.all fun row=>row.all cm)=true) :
    ∃ nW γ1,(Builtin.append_ #[t,t] oty #[qz,Bf]).run P γ.w=.ok nW γ1.w∧γ1.tmps=γ.tmps∧br { σ1 with aa:=σ1.aa++[.arr sz (pre++src)] } γ1 ∧
      Fr σ.aa γ (σ1.aa++[.arr sz (pre++src)]) γ1∧aw (σ1.aa++[.arr sz (pre++src)]) γ1.w γ1.Z γ1.blk (.ref σ1.aa.length sz 0 (pre.length+src.length)) nW:=by
  obtain ⟨i,d,hi,DR,rK,A9,hzero⟩:=rL dW
  have ht:=rJ hk
  have uq:i.size=sz:=by rw[← rK,← aW]
  obtain ⟨zv,xh,je⟩ :∃zv,i.zero=some zv∧zv.cells.size=sz:=by
    rw[hzero] at hz
    cases hv:i.zero with
    | none=>simp[hv] at hz
    | some v=>simp[hv] at hz;exact⟨v,rfl,by rw[← kf,← hz];simp⟩
  obtain ⟨ad,c,g,rfl,l6,kh,zh⟩:=Nl h hX h0 rF
  obtain ⟨⟨jL,Nq,_⟩,Zz⟩:=Zw h hS hd
  let news:=(aT (src.length * sz)).map g
  have ak:news.length=src.length * i.size:=by simp[news,uq]
  have ZA:∀ u∈news,u.oneCell'=true:=by
    intro u hu
    obtain ⟨j,hj⟩:=KK.1 hu
    obtain ⟨kZ,rfl⟩:=zg hj
    have h1:j / sz<src.length:=Nat.div_lt_of_lt_mul (by rw[rh];exact kZ)
    have h2:j % sz<sz:=yx _ h0
    have cK:(src[j / sz]).length=sz:=l6 _ (tP h1)
    have:=zh (j / sz) (j % sz) ((src[j / sz])[j % sz]'(by omega)) (by simp[cellAt,h1,h2,cK])
    have e:j / sz * sz+j % sz=j:=by rw[rh];exact KO j sz
    rw[e] at this
    refine DZ this ?_
    rw[fK] at lY
    have:=lY _ (tP h1)
    rw[fK] at this
    exact this _ (tP _)
  have vB:0<src.length→∃ a,ad=some a∧∀ j u,news[j]?=some u→γ.w.cell? (a.add j)=some u:=by
    intro hp
    obtain ⟨b,o,rfl,hc⟩:=kh hp
    refine⟨_,rfl,fun j u hu=>?_⟩
    obtain ⟨kZ,rfl⟩:=zg hu
    rw[Addr.qy]
    exact hc j kZ
  have vC:pre.length+src.length≤maxLen:=by unfold maxLen;omega
  have gF:(pre.length+src.length) * i.bytes≤140737488355328:=by
    rw[← A9]
    calc _≤549755813888 * 128:=Nat.mul_le_mul hlen A8
      _≤_:=by omega
  have fresh:∀ (kG:Nat) (go:Nat→Value),(∀ row∈pre,row.length=sz)→(∀ r c v,cellAt pre r c=some v→aw σ.aa γ.w γ.Z γ.blk v (go (r * sz+c))) →
      ∀ (w':World) (cap:Nat),pre.length+src.length≤cap→cap≤maxLen →
        w'=γ.w.drew.alloc (.cells (((aT (pre.length * sz)).map go).toArray++news.toArray++Builtin.zeroCells zv.cells (cap - (pre.length+src.length))) (ty P t).elem) →
        ∃ γ1:Cx,γ1.w=w'∧γ1.tmps=γ.tmps∧br { σ1 with aa:=σ1.aa++[.arr sz (pre++src)] } γ1∧Fr σ.aa γ (σ1.aa++[.arr sz (pre++src)]) γ1 ∧
          aw (σ1.aa++[.arr sz (pre++src)]) γ1.w γ1.Z γ1.blk (.ref σ1.aa.length sz 0 (pre.length+src.length)) (.slice (some ⟨γ.w.heap.size,0,none⟩) (pre.length+src.length) cap):=by
    intro kG go dz D1 w' cap n5 HC rB
    have zi:∀ v cv,aw σ.aa γ.w γ.Z γ.blk v cv→aw σ1.aa γ.w γ.Z γ.blk v cv:=by
      intro v cv hv
      refine hv.mono (fun b hb=>⟨hb,rfl⟩) (fun i o ho=>?_)
      unfold pE at hd
      split at hd
      · simp at hd
        rw[← hd.2]
        by_cases bD:o=.gone
        · subst bD;exact .inl ho
        · exact .inr ⟨rfl,o,ho,Ob.jB bD⟩
      · rename_i id cJ off len
        have hi:i<σ.aa.length:=(aS.1 ho).1
        split at hd
        · split at hd
          · simp at hd
            rw[← hd.2]
            show (σ.aa.set id Ob.gone)[i]?=some Ob.gone∨_
            simp only[bS]
            by_cases lX:id=i
            · left;simp[lX,hi]
            · rw[if_neg lX]
              by_cases bD:o=.gone
              · subst bD;exact .inl ho
              · exact .inr ⟨trivial,o,ho,Ob.jB bD⟩
          · simp at hd
        · simp at hd
      · simp at hd
    let cur:=((aT (pre.length * sz)).map go).toArray++news.toArray++Builtin.zeroCells zv.cells (cap - (pre.length+src.length))
    have aZ:rG σ1.aa γ.w γ.Z γ.blk 0 cap cur (.arr sz (pre++src)):=by
      refine⟨h0,?_,?_,by simpa using n5,HC,?_⟩
      · intro row a6
        rcases cy.1 a6 with h | h
        · exact dz row h
        · exact l6 row h
      · simp only[cur,news,Array.size_append,Ay,dU,List.length_range,size_zeroCells,je,← e9]
        have:pre.length+src.length+(cap - (pre.length+src.length))=cap:=by omega
        rw[this];omega
      · intro r c v hv
        have:=Zv (R:=aw σ1.aa γ.w γ.Z γ.blk) dz l6 (fun r c v hv=>zi _ _ (D1 r c v hv)) (fun r c v hv=>zi _ _ (zh r c v hv)) (Builtin.zeroCells zv.cells (cap - (pre.length+src.length))).toList r c v hv
        rw[eR]
        have e:cur=(((aT (pre.length * sz)).map go)++((aT (src.length * sz)).map g)++(Builtin.zeroCells zv.cells (cap - (pre.length+src.length))).toList).toArray:=by
          apply Array.ext'
          simp[cur,news]
        rw[e]
        exact this
    refine⟨{ γ with w:=w',blk:=cL γ.blk σ1.aa.length (some (γ.w.heap.size,0,cap)) },rfl,rfl,?_,?_,?_⟩
    · exact jL.push (t:=(ty P t).elem) (cur:=cur) (by rw[rB];rfl) aZ
    · exact Nq.trans (Fr.push (σ:=σ1) (t:=(ty P t).elem) (cur:=cur) _ (by rw[rB];rfl) (by rw[rB];rfl) (by rw[rB];rfl) (by rw[rB];rfl))
    · have:=aw.ref (os:=σ1.aa++[.arr sz (pre++src)]) (w:=w') (Z:=γ.Z) (blk:=cL γ.blk σ1.aa.length (some (γ.w.heap.size,0,cap))) σ1.aa.length sz 0 (pre.length+src.length) γ.w.heap.size 0 cap cap (pre++src)
        (by simp) (by simp[cL]) (by simp) (by omega) n5
      simpa using this
  rcases Zz with ⟨rfl,rfl⟩ | ⟨id,b,x,bo,cur,tt,rfl,rfl,nY,rfl,hb,jC⟩ | ⟨id,off,rows,b,o,cap,cap',cur,tt,ho,rfl,hb,jC,rfl,rN,fY,ec,dz,D1⟩
  · rcases mY src.length with hm | hp
    ·
      have mI:src=[]:=p7 hm
      subst mI
      refine⟨.slice none 0 0,{ γ with blk:=cL γ.blk σ1.aa.length none },?_,rfl,jL.w7 h0,Nq.trans (Fr.w7 _ _ _),?_⟩
      · cases ad<;>simp[Builtin.append_,run_underlying ht,sizeOf,typeInfo,hi,Builtin.lenOf,Builtin.firstCells,loadCells,loadCellsFrom]
      · exact .lC _ _ (by simp) (by simp[cL])
    · obtain ⟨a,rfl,hc⟩:=vB hp
      have hr:=run_append_nil (P:=P) γ.w t oty _ i zv ht hi xh a src.length c news ak hc hp (by unfold maxLen at vC;simp at vC;omega) (by have hb:=gF;simp only[nJ,eR] at hb;omega)
      have lE:=grownCap_ge γ.w src.length 0 (ty P t).elem
      have fY:=grownCap_le_maxLen γ.w src.length 0 (ty P t).elem (by simpa using vC)
      obtain ⟨γ1,e1,e2,e3,e4,e5⟩:=fresh 0 (fun _=>Go.undef) (by simp) (by simp[cellAt]) _ (grownCap γ.w src.length 0 (ty P t).elem) (by simpa using lE) fY rfl
      simp only[nJ,Nat.zero_mul,List.range_zero,List.map_nil,eR,Array.empty_append] at e1 e5
      refine⟨.slice (some ⟨γ.w.heap.size,0,none⟩) src.length (grownCap γ.w src.length 0 (ty P t).elem),γ1,?_,e2,e3,e4,?_⟩
      · rw[hr,e1]
      · simpa using e5
  · rcases mY src.length with hm | hp
    · have mI:src=[]:=p7 hm
      subst mI
      obtain ⟨ob,ho,hg⟩:=nY
      have nh:∀ k,k≠b→γ.w.heap[k]?=γ.w.heap[k]?:=fun _ _=>rfl
      have zj:=h.Bd (ob':=.arr sz []) (o':=0) (cap':=0) ho hg (o:=bo.1) (cap:=bo.2) hb jC nh rfl ⟨h0,by simp,by simp,by simp,by simp[maxLen],by simp[cellAt]⟩
      have dE:=Fr.Bd (γ:=γ) (o':=0) (cap':=0) (.arr sz []) ho hg (o:=bo.1) (cap:=bo.2) hb (w':=γ.w) nh rfl rfl rfl rfl
      refine⟨.slice (some ⟨b,x,none⟩) 0 0,{ γ with w:=γ.w,blk:=cL γ.blk σ.aa.length (some (b,0,0)) },?_,rfl,by simpa using zj,by simpa using dE,?_⟩
      · cases ad<;>simp[Builtin.append_,run_underlying ht,sizeOf,typeInfo,hi,Builtin.lenOf,Builtin.firstCells,loadCells,loadCellsFrom,storeCells]
      · have:=aw.lV (os:=σ.aa.set id .gone++[.arr sz []]) (w:=γ.w) (Z:=γ.Z) (blk:=cL γ.blk σ.aa.length (some (b,0,0))) σ.aa.length sz 0 b x (0,0) []
          (by rw[eE (by simp)];simp) (by simp[cL]) (by simp)
        simpa using this
    · obtain ⟨a,rfl,hc⟩:=vB hp
      have hr:=run_append_grow (P:=P) γ.w t oty _ i zv ht hi xh ⟨b,x,none⟩ 0 0 [] (by simp) (by simp) a src.length c news ak hc (by omega) (by unfold maxLen at vC;simp at vC;omega) (growslice_fits (by omega) (by simpa using gF))
      have lE:=grownCap_ge γ.w (0+src.length) 0 (ty P t).elem
      have fY:=grownCap_le_maxLen γ.w (0+src.length) 0 (ty P t).elem (by simpa using vC)
      obtain ⟨γ1,e1,e2,e3,e4,e5⟩:=fresh 0 (fun _=>Go.undef) (by simp) (by simp[cellAt]) _ (grownCap γ.w (0+src.length) 0 (ty P t).elem) (by simpa using lE) fY rfl
      refine⟨.slice (some ⟨γ.w.heap.size,0,none⟩) (0+src.length) (grownCap γ.w (0+src.length) 0 (ty P t).elem),γ1,?_,e2,e3,e4,?_⟩
      · rw[hr,e1];simp
      · simpa using e5
  · by_cases zf:pre.length+src.length≤cap'
    ·
      have hmul:pre.length * sz+src.length * sz≤cap' * sz:=by rw[← e9];exact mX _ zf
      have D2:news.length=src.length * sz:=by rw[ak,uq]
      have hr:=Zx (P:=P) γ.w t oty _ i ht hi b (o+off * sz) pre.length cap' cur tt jC ad src.length c news ak vB ZA zf (by rw[uq,D2];omega)
      have aZ:rG σ.aa γ.w γ.Z γ.blk (o+off * sz) cap' (cur.toList.take (o+off * sz+pre.length * i.size)++news++cur.toList.drop (o+off * sz+pre.length * i.size+news.length)).toArray (.arr sz (pre++src)):=by
        refine⟨h0,?_,?_,by simpa using zf,fY,?_⟩
        · intro row a6
          rcases cy.1 a6 with h | h
          · exact dz row h
          · exact l6 row h
        · simp only[Ay,bJ,ez,tQ,sr,uq,D2]
          omega
        · intro r c v hv
          rw[Ba cur _ news (by rw[uq,D2];omega),uq,D2]
          rw[Nn] at hv
          split at hv
          · obtain ⟨zl,n5⟩:=AS dz hv
            have:=wZ zl n5
            rw[if_neg (by omega)]
            exact D1 r c v hv
          · obtain ⟨zl,n5⟩:=AS l6 hv
            have hl:=wZ zl n5
            have e:r * sz+c=pre.length * sz+((r - pre.length) * sz+c):=by
              have:r=pre.length+(r - pre.length):=by omega
              conv=>lhs;rw[this,e9]
              omega
            rw[if_pos (by omega)]
            have e2:o+off * sz+(r * sz+c) - (o+off * sz+pre.length * sz)=(r - pre.length) * sz+c:=by omega
            rw[e2]
            simp only[news,ay]
            simp[hl]
            exact zh _ _ _ hv
      have zj:=h.Bd ho (by simp) hb (setRow_heap γ.w b cur _ tt _ jC) (fun k hk=>setRow_other γ.w b k _ hk) (setRow_size _ _ _) aZ
      have dE:=Fr.Bd (γ:=γ) (o':=o+off * sz) (cap':=cap') (.arr sz (pre++src)) ho (by simp) hb (w':=γ.w.setRow b (cur.toList.take (o+off * sz+pre.length * i.size)++news++cur.toList.drop (o+off * sz+pre.length * i.size+news.length)).toArray) (fun k hk=>setRow_other γ.w b k _ hk) (setRow_size _ _ _) rfl rfl rfl
      refine⟨_,{ γ with w:=γ.w.setRow b (cur.toList.take (o+off * sz+pre.length * i.size)++news++cur.toList.drop (o+off * sz+pre.length * i.size+news.length)).toArray,blk:=cL γ.blk σ.aa.length (some (b,o+off * sz,cap')) },hr,rfl,?_,?_,?_⟩
      · simpa using zj
      · simpa using dE
      · have:=aw.ref (os:=σ.aa.set id .gone++[.arr sz (pre++src)]) (w:=γ.w.setRow b (cur.toList.take (o+off * sz+pre.length * i.size)++news++cur.toList.drop (o+off * sz+pre.length * i.size+news.length)).toArray) (Z:=γ.Z)
          (blk:=cL γ.blk σ.aa.length (some (b,o+off * sz,cap'))) σ.aa.length sz 0 (pre.length+src.length) b (o+off * sz) cap' cap' (pre++src)
          (by rw[eE (by simp)];simp) (by simp[cL]) (by simp) (by omega) zf
        simpa using this
    ·
      let go:Nat→Value:=fun j=>cur.getD (o+off * sz+j) Go.undef
      let D3:=(aT (pre.length * sz)).map go
      have jh:D3.length=pre.length * i.size:=by simp[D3,uq]
      have ag0:pre.length * sz≤cap' * sz:=mX _ rN
      have holds:∀ j v,D3[j]?=some v→γ.w.cell? ((⟨b,o+off * sz,none⟩:Addr).add j)=some v:=by
        intro j v hj
        obtain ⟨kZ,rfl⟩:=zg hj
        rw[Addr.qy]
        exact yS jC (by omega)
      have hp:0<src.length:=by omega
      obtain ⟨a,rfl,hc⟩:=vB hp
      have hr:=run_append_grow (P:=P) γ.w t oty _ i zv ht hi xh ⟨b,o+off * sz,none⟩ pre.length cap' D3 jh holds a src.length c news ak hc (by omega) (by unfold maxLen at vC;omega) (growslice_fits (by omega) gF)
      have lE:=grownCap_ge γ.w (pre.length+src.length) cap' (ty P t).elem
      have ZB:=grownCap_le_maxLen γ.w (pre.length+src.length) cap' (ty P t).elem vC
      obtain ⟨γ1,e1,e2,e3,e4,e5⟩:=fresh 0 go dz D1 _ (grownCap γ.w (pre.length+src.length) cap' (ty P t).elem) lE ZB rfl
      refine⟨_,γ1,?_,e2,e3,e4,e5⟩
      rw[hr,e1]
theorem Zr {σ:St} {γ:Cx} (h:br σ γ) {t t' oty:TypeId} {sz:Nat} (hk:(ty P t).kind=1) (dW:(ty P (ty P t).elem).kind≠99)
    (aW:sz=(ty P (ty P t).elem).size) (h0:0<sz) {id off len:Nat} {x:AV} {qz Bf:Value} (hS:aw σ.aa γ.w γ.Z γ.blk (.ref id sz off len) qz) (hX:aw σ.aa γ.w γ.Z γ.blk x Bf)
    {rows:List (List AV)} (ho:σ.aa[id]?=some (.arr sz rows)) {src:List (List AV)} (rF:m4 σ x=some (sz,src)) (lY:(src.all fun row=>row.all cm)=true) :
    ∃ w',(Builtin.copy_ #[t,t'] oty #[qz,Bf]).run P γ.w=.ok (.int .i64 (min src.length len:Nat)) w' ∧
      br { σ with aa:=σ.aa.set id (.arr sz (rows.take off++src.take (min src.length len)++rows.drop (off+min src.length len))) } { γ with w:=w' } ∧
      Fr σ.aa γ (σ.aa.set id (.arr sz (rows.take off++src.take (min src.length len)++rows.drop (off+min src.length len)))) { γ with w:=w' }:=by
  obtain ⟨i,d,hi,DR,rK,A9,hzero⟩:=rL dW
  have ht:=rJ hk
  have uq:i.size=sz:=by rw[← rK,← aW]
  obtain ⟨ad,c,g,rfl,l6,kh,zh⟩:=Nl h hX h0 rF
  have cN:id<σ.aa.length:=(aS.1 ho).1
  have zero:∀ (xo:Option Addr) (cap':Nat),min src.length len=0→qz=.slice xo len cap'→∃ w',(Builtin.copy_ #[t,t'] oty #[qz,.slice ad src.length c]).run P γ.w=.ok (.int .i64 (min src.length len:Nat)) w' ∧
      br { σ with aa:=σ.aa.set id (.arr sz (rows.take off++src.take (min src.length len)++rows.drop (off+min src.length len))) } { γ with w:=w' } ∧
      Fr σ.aa γ (σ.aa.set id (.arr sz (rows.take off++src.take (min src.length len)++rows.drop (off+min src.length len)))) { γ with w:=w' }:=by
    intro xo cap' hz a9
    have iS:σ.aa.set id (.arr sz rows)=σ.aa:=by
      apply ju
      intro j
      rw[bS]
      split
      · rename_i e;subst e;simp[ho]
      · rfl
    refine⟨γ.w,?_,?_,?_⟩
    · have hm:Nat.min src.length len=0:=hz
      subst a9
      cases ad<;>cases xo<;>simp[Builtin.copy_,run_underlying ht,sizeOf,typeInfo,hi,Builtin.lenOf,Builtin.firstCells,loadCells,loadCellsFrom,storeCells,hm,goInt,hz]
    · rw[hz];simp[iS];exact h
    · rw[hz];simp[iS];exact Fr.refl _ _
  cases hS with
  | cd _ _ h=>cases h
  | kc _ _ _ _ _ h=>rw[ho] at h;simp at h
  | lC _ _ h hb=>exact zero none 0 (by simp) rfl
  | lV _ _ _ b x bo fT h hb hl=>exact zero _ 0 (by simp) rfl
  | ref _ _ _ _ b o cap cap' fT h' hb hl hc j6 =>
    rw[ho] at h';simp at h'
    subst h'
    rcases mY (min src.length len) with hz | hp
    · exact zero _ _ hz rfl
    obtain ⟨_,cK,aZ⟩:=h.er id _ ho
    rcases aZ with ⟨h1,_⟩ | ⟨b',o',AR,cur,tt,h1,h2,h3,h4,h5,h6⟩
    · rw[hb] at h1;simp at h1
    rw[hb] at h1;simp at h1
    obtain ⟨rfl,rfl,rfl⟩:=h1
    generalize hn:min src.length len=n at *
    have eM:n≤src.length:=by omega
    have nV:n≤len:=by omega
    let news:=(aT (n * sz)).map g
    have ak:news.length=n * sz:=by simp[news]
    have l7:∀ u∈news,u.oneCell'=true:=by
      intro u hu
      obtain ⟨j,hj⟩:=KK.1 hu
      obtain ⟨kZ,rfl⟩:=zg hj
      have k1:j / sz<n:=Nat.div_lt_of_lt_mul (by rw[rh];exact kZ)
      have k2:j % sz<sz:=yx _ h0
      have k3:j / sz<src.length:=by omega
      have cK:(src[j / sz]).length=sz:=l6 _ (tP k3)
      have:=zh (j / sz) (j % sz) ((src[j / sz])[j % sz]'(by omega)) (by simp[cellAt,k3,k2,cK])
      have e:j / sz * sz+j % sz=j:=by rw[rh];exact KO j sz
      rw[e] at this
      refine DZ this ?_
      rw[fK] at lY
      have:=lY _ (tP k3)
      rw[fK] at this
      exact this _ (tP _)
    obtain ⟨sb,so,rfl,qf⟩:=kh (by omega)
    have hle:n * sz≤src.length * sz:=mX _ eM
    have ur:=run_loadCells_list (P:=P) γ.w ⟨sb,so,none⟩ news (fun j v hj=>by
      obtain ⟨kZ,rfl⟩:=zg hj
      rw[Addr.qy]
      exact qf j (by omega))
    have ec:(off+n) * sz≤cap * sz:=mX _ (by omega)
    rw[e9] at ec
    have dP:=run_storeCells_at P b (o+off * sz) tt news 0 cur γ.w h2 (by rw[ak];omega) l7
    simp only[g7] at dP
    have eF:(Builtin.copy_ #[t,t'] oty #[.slice (some ⟨b,o+off * sz,none⟩) len cap',.slice (some ⟨sb,so,none⟩) src.length c]).run P γ.w=.ok (.int .i64 (n:Nat)) (γ.w.setRow b (cur.toList.take (o+off * sz)++news++cur.toList.drop (o+off * sz+news.length)).toArray):=by
      have hm:Nat.min src.length len=n:=hn
      rw[ak] at ur
      simp[Builtin.copy_,run_underlying ht,sizeOf,typeInfo,hi,Builtin.lenOf,Builtin.firstCells,hm,uq,ur,dP,goInt]
    have HD:rG σ.aa γ.w γ.Z γ.blk o cap (cur.toList.take (o+off * sz)++news++cur.toList.drop (o+off * sz+news.length)).toArray (.arr sz (rows.take off++src.take n++rows.drop (off+n))):=by
      refine⟨h0,?_,?_,?_,h5,?_⟩
      · intro row a6
        simp only[cy] at a6
        rcases a6 with (hr | hr) | hr
        · exact cK row (p8 hr)
        · exact l6 row (p8 hr)
        · exact cK row (tS hr)
      · simp only[Ay,bJ,ez,tQ,sr,ak]
        omega
      · simp;omega
      · intro r cc v hv
        rw[Ba cur _ news (by rw[ak];omega),ak]
        have bj:cc<sz:=by
          simp only[cellAt,ve] at hv
          obtain ⟨y,hy,oV⟩:=hv
          have hm:=gw hy
          have:=(aS.1 oV).1
          simp only[cy] at hm
          rcases hm with (hr | hr) | hr
          · have:=cK y (p8 hr);omega
          · have:=l6 y (p8 hr);omega
          · have:=cK y (tS hr);omega
        rcases eK r off with k1 | k1
        · have e:cellAt (rows.take off++src.take n++rows.drop (off+n)) r cc=cellAt rows r cc:=by
            simp only[cellAt,cI]
            rw[cj (by simp;omega),sv,if_pos k1]
          rw[e] at hv
          have hm:(r+1) * sz≤off * sz:=mX _ (by omega)
          rw[e9] at hm
          rw[if_neg (by omega)]
          exact h6 r cc v hv
        · rcases eK r (off+n) with k2 | k2
          · have e:cellAt (rows.take off++src.take n++rows.drop (off+n)) r cc=cellAt src (r - off) cc:=by
              simp only[cellAt,cI]
              rw[eE (by simp;omega),cj (by simp;omega),sv,if_pos (by simp;omega)]
              congr 2;simp;omega
            rw[e] at hv
            have e1:r=off+(r - off):=by omega
            have e2:r * sz=off * sz+(r - off) * sz:=by rw[← e9,← e1]
            have hm:(r - off+1) * sz≤n * sz:=mX _ (by omega)
            rw[e9] at hm
            rw[if_pos (by omega)]
            have e3:o+(r * sz+cc) - (o+off * sz)=(r - off) * sz+cc:=by omega
            rw[e3]
            have hl:(r - off) * sz+cc<n * sz:=by omega
            simp only[news,ay]
            simp[hl]
            exact zh _ _ _ hv
          · have e:cellAt (rows.take off++src.take n++rows.drop (off+n)) r cc=cellAt rows r cc:=by
              simp only[cellAt]
              rw[eE (by simp;omega),nI]
              congr 2;simp;omega
            rw[e] at hv
            have hm:(off+n) * sz≤r * sz:=mX _ k2
            rw[e9] at hm
            rw[if_neg (by omega)]
            exact h6 r cc v hv
    refine⟨_,eF,?_,?_⟩
    · exact h.write ho (by simp) (by simp[Ob.dX];omega) hb (setRow_heap γ.w b cur _ tt _ h2) (fun k hk=>setRow_other γ.w b k _ hk) (setRow_size _ _ _) HD
    · exact Fr.write _ ho (by simp) (by simp[Ob.dX];omega) hb (fun k hk=>setRow_other γ.w b k _ hk) (setRow_size _ _ _) rfl rfl rfl
theorem Zs {σ:St} {γ:Cx} (h:br σ γ) {t oty:TypeId} {sz:Nat} {z:List Value} (hk:(ty P t).kind=1) (dW:(ty P (ty P t).elem).kind≠99)
    (kf:z.length=sz) (h0:0<sz) (hz:(ty P (ty P t).elem).zero=some z) (DY:(z.all fun u=>u.oneCell')=true) {id off len:Nat} {qz:Value} (hS:aw σ.aa γ.w γ.Z γ.blk (.ref id sz off len) qz)
    {rows:List (List AV)} (ho:σ.aa[id]?=some (.arr sz rows)) :
    ∃ w',(Builtin.clear_ #[t] oty #[qz]).run P γ.w=.ok (.tuple #[]) w' ∧
      br { σ with aa:=σ.aa.set id (.arr sz (rows.take off++bq len (z.map AV.lit)++rows.drop (off+len))) } { γ with w:=w' } ∧
      Fr σ.aa γ (σ.aa.set id (.arr sz (rows.take off++bq len (z.map AV.lit)++rows.drop (off+len)))) { γ with w:=w' }:=by
  obtain ⟨i,d,hi,DR,rK,A9,hzero⟩:=rL dW
  have ht:=rJ hk
  rw[hz] at hzero
  obtain ⟨zv,xh,je⟩:=yv.1 hzero.symm
  have HE:zv.cells.size=sz:=by rw[← kf,← je];simp
  have cN:id<σ.aa.length:=(aS.1 ho).1
  have zero:∀ (xo:Option Addr) (cap':Nat),len=0→qz=.slice xo len cap'→∃ w',(Builtin.clear_ #[t] oty #[qz]).run P γ.w=.ok (.tuple #[]) w' ∧
      br { σ with aa:=σ.aa.set id (.arr sz (rows.take off++bq len (z.map AV.lit)++rows.drop (off+len))) } { γ with w:=w' } ∧
      Fr σ.aa γ (σ.aa.set id (.arr sz (rows.take off++bq len (z.map AV.lit)++rows.drop (off+len)))) { γ with w:=w' }:=by
    intro xo cap' sP a9
    have iS:σ.aa.set id (.arr sz rows)=σ.aa:=by
      apply ju
      intro j
      rw[bS]
      split
      · rename_i e;subst e;simp[ho]
      · rfl
    refine⟨γ.w,?_,?_,?_⟩
    · subst a9;subst sP
      cases xo<;>simp[Builtin.clear_,run_underlying ht]
    · subst sP;simp[iS];exact h
    · subst sP;simp[iS];exact Fr.refl _ _
  cases hS with
  | cd _ _ h=>cases h
  | kc _ _ _ _ _ h=>rw[ho] at h;simp at h
  | lC _ _ h hb=>exact zero none 0 rfl rfl
  | lV _ _ _ b x bo fT h hb hl=>exact zero _ 0 rfl rfl
  | ref _ _ _ _ b o cap cap' fT h' hb hl hc j6 =>
    rw[ho] at h';simp at h'
    subst h'
    rcases mY len with sP | hp
    · exact zero _ _ sP rfl
    obtain ⟨_,cK,aZ⟩:=h.er id _ ho
    rcases aZ with ⟨h1,_⟩ | ⟨b',o',AR,cur,tt,h1,h2,h3,h4,h5,h6⟩
    · rw[hb] at h1;simp at h1
    rw[hb] at h1;simp at h1
    obtain ⟨rfl,rfl,rfl⟩:=h1
    let g:Nat→Value:=fun i=>zv.cells[i % zv.cells.size]!
    let news:=(aT (len * sz)).map g
    have vB:(Builtin.zeroCells zv.cells len).toList=news:=by
      simp[Builtin.zeroCells,news,g,HE]
    have ak:news.length=len * sz:=by simp[news]
    have Nr:∀ i,i<sz→∃ u,z[i]?=some u∧zv.cells[i]! = u:=by
      intro i hi'
      have:i<zv.cells.size:=by omega
      refine⟨zv.cells[i],?_,?_⟩
      · rw[← je];simp[this]
      · simp[this]
    have l7:∀ u∈news,u.oneCell'=true:=by
      intro u hu
      obtain ⟨j,hj⟩:=KK.1 hu
      obtain ⟨kZ,rfl⟩:=zg hj
      obtain ⟨u,k1,k2⟩:=Nr (j % sz) (yx _ h0)
      show (zv.cells[j % zv.cells.size]!).oneCell'=true
      rw[HE,k2]
      rw[fK] at DY
      exact DY _ (gw k1)
    have ec:(off+len) * sz≤cap * sz:=mX _ (by omega)
    rw[e9] at ec
    have dP:=run_storeCells_at P b (o+off * sz) tt news 0 cur γ.w h2 (by rw[ak];omega) l7
    simp only[g7] at dP
    have eF:(Builtin.clear_ #[t] oty #[.slice (some ⟨b,o+off * sz,none⟩) len cap']).run P γ.w=.ok (.tuple #[]) (γ.w.setRow b (cur.toList.take (o+off * sz)++news++cur.toList.drop (o+off * sz+news.length)).toArray):=by
      obtain ⟨ag1,rfl⟩ :∃k,len=k+1:=⟨len - 1,by omega⟩
      simp[Builtin.clear_,run_underlying ht,zeroValue,typeInfo,hi,xh,vB,dP]
    have HD:rG σ.aa γ.w γ.Z γ.blk o cap (cur.toList.take (o+off * sz)++news++cur.toList.drop (o+off * sz+news.length)).toArray (.arr sz (rows.take off++bq len (z.map AV.lit)++rows.drop (off+len))):=by
      refine⟨h0,?_,?_,?_,h5,?_⟩
      · intro row a6
        simp only[cy] at a6
        rcases a6 with (hr | hr) | hr
        · exact cK row (p8 hr)
        · rw[De hr,dU];exact kf
        · exact cK row (tS hr)
      · simp only[Ay,bJ,ez,tQ,sr,ak]
        omega
      · simp;omega
      · intro r cc v hv
        rw[Ba cur _ news (by rw[ak];omega),ak]
        have bj:cc<sz:=by
          simp only[cellAt,ve] at hv
          obtain ⟨y,hy,oV⟩:=hv
          have hm:=gw hy
          have:=(aS.1 oV).1
          simp only[cy] at hm
          rcases hm with (hr | hr) | hr
          · have:=cK y (p8 hr);omega
          · have D4:=De hr
            rw[D4,dU] at this;omega
          · have:=cK y (tS hr);omega
        rcases eK r off with k1 | k1
        · have e:cellAt (rows.take off++bq len (z.map AV.lit)++rows.drop (off+len)) r cc=cellAt rows r cc:=by
            simp only[cellAt,cI]
            rw[cj (by simp;omega),sv,if_pos k1]
          rw[e] at hv
          have hm:(r+1) * sz≤off * sz:=mX _ (by omega)
          rw[e9] at hm
          rw[if_neg (by omega)]
          exact h6 r cc v hv
        · rcases eK r (off+len) with k2 | k2
          · have e:cellAt (rows.take off++bq len (z.map AV.lit)++rows.drop (off+len)) r cc=(z.map AV.lit)[cc]?:=by
              simp only[cellAt,cI]
              rw[eE (by simp;omega),cj (by simp;omega),List.getElem?_replicate,if_pos (by simp;omega)]
              rfl
            rw[e,bN] at hv
            obtain ⟨u,k3,k4⟩:=Nr cc bj
            rw[k3] at hv
            simp only[ed,da.injEq] at hv
            subst hv
            have e1:r=off+(r - off):=by omega
            have e2:r * sz=off * sz+(r - off) * sz:=by rw[← e9,← e1]
            have hm:(r - off+1) * sz≤len * sz:=mX _ (by omega)
            rw[e9] at hm
            rw[if_pos (by omega)]
            have e3:o+(r * sz+cc) - (o+off * sz)=(r - off) * sz+cc:=by omega
            rw[e3]
            have hl:(r - off) * sz+cc<len * sz:=by omega
            have e4:news.getD ((r - off) * sz+cc) Go.undef=u:=by
              simp only[news,ay]
              rw[bN,List.getElem?_range hl]
              show zv.cells[((r - off) * sz+cc) % zv.cells.size]! = u
              rw[HE,rh,KQ,Db bj,k4]
            first
              | (rw[e4];exact .lit _)
              | (simp only[ay] at e4 ⊢;rw[e4];exact .lit _)
          · have e:cellAt (rows.take off++bq len (z.map AV.lit)++rows.drop (off+len)) r cc=cellAt rows r cc:=by
              simp only[cellAt]
              rw[eE (by simp;omega),nI]
              congr 2;simp;omega
            rw[e] at hv
            have hm:(off+len) * sz≤r * sz:=mX _ k2
            rw[e9] at hm
            rw[if_neg (by omega)]
            exact h6 r cc v hv
    refine⟨_,eF,?_,?_⟩
    · exact h.write ho (by simp) (by simp[Ob.dX];omega) hb (setRow_heap γ.w b cur _ tt _ h2) (fun k hk=>setRow_other γ.w b k _ hk) (setRow_size _ _ _) HD
    · exact Fr.write _ ho (by simp) (by simp[Ob.dX];omega) hb (fun k hk=>setRow_other γ.w b k _ hk) (setRow_size _ _ _) rfl rfl rfl
end Go.Am
namespace Go.Am
variable {P:Program}
theorem ZC (l:List Value):∀ (j off:Nat) (cells:Array Value),off+j+l.length≤cells.size →
    ((l.zipIdx j).foldl (fun cs (x:Value × Nat)=>cs.setIfInBounds (off+x.2) x.1) cells).size=cells.size ∧
    ∀ k,((l.zipIdx j).foldl (fun cs (x:Value × Nat)=>cs.setIfInBounds (off+x.2) x.1) cells).getD k Go.undef=if off+j≤k∧k<off+j+l.length then l.getD (k - (off+j)) Go.undef else cells.getD k Go.undef:=by
  induction l with
  | nil=>intro j off cells _;simp;intro k h1 h2;omega
  | cons v l ih =>
    intro j off cells hl
    simp only[dH] at hl
    simp only[List.zipIdx_cons,List.foldl_cons]
    obtain ⟨h1,h2⟩:=ih (j+1) off (cells.setIfInBounds (off+j) v) (by simp;omega)
    refine⟨by rw[h1];simp,fun k=>?_⟩
    rw[h2 k]
    simp only[dH]
    by_cases c1:off+(j+1)≤k∧k<off+(j+1)+l.length
    · rw[if_pos c1,if_pos (by omega)]
      have:k - (off+j)=(k - (off+(j+1)))+1:=by omega
      rw[this];simp
    · rw[if_neg c1]
      by_cases c2:k=off+j
      · subst c2
        rw[if_pos (by omega)]
        simp[eQ,show off+j<cells.size by omega]
      · rw[if_neg (by omega)]
        simp[eQ,Array.getElem?_setIfInBounds_ne (Ne.symm c2)]
theorem ZD (v:Value) (off:Nat) (cells:Array Value) :
    (v.cells.zipIdx.foldl (fun cs (c,j)=>cs.setIfInBounds (off+j) c) cells)=((v.cells.toList.zipIdx 0).foldl (fun cs (x:Value × Nat)=>cs.setIfInBounds (off+x.2) x.1) cells):=by
  rw[← Array.foldl_toList]
  simp
def Bg (R:AV→Value→Prop) (cs:List AV) (cur:Array Value):Prop:=cur.size=cs.length∧∀ j x,cs[j]?=some x→R x (cur.getD j Go.undef)
theorem DU {σ:St} {γ:Cx} {place:Nat→Option (Nat × Nat)}:∀ (parts:List (Nat × AV)) (pv:List (Nat × Value)) (cs:List AV) (cur:Array Value) (pG:List AV),
    parts.length=pv.length→(∀ (j:Nat) (p:Nat × AV) (q:Nat × Value),parts[j]?=some p→pv[j]?=some q→p.1=q.1∧aw σ.aa γ.w γ.Z γ.blk p.2 q.2)→(∀ p∈parts,(cellsOf p.2).all cm=true) →
    Bg (aw σ.aa γ.w γ.Z γ.blk) cs cur→lz place cs parts=some pG→∃ nZ,Instr.fill place cur pv=some nZ∧Bg (aw σ.aa γ.w γ.Z γ.blk) pG nZ
  | [],pv,cs,cur,pG,hl,_,_,hc,h=>by
    have:pv=[]:=p7 hl.symm
    subst this
    simp[lz] at h
    subst h
    exact⟨cur,by simp[Instr.fill],hc⟩
  | (i,v)::rest,[],cs,cur,pG,hl,_,_,_,_=>by simp at hl
  | (i,v)::rest,(i',x)::pv,cs,cur,pG,hl,hr,hs,hc,h=>by
    obtain ⟨e1,e2⟩:=hr 0 (i,v) (i',x) rfl rfl
    simp only at e1 e2
    subst e1
    simp only[lz] at h
    cases hp:place i with
    | none=>simp[hp] at h
    | some os =>
      obtain ⟨off,size⟩:=os
      simp only[hp] at h
      split at h
      · rename_i ZE
        obtain ⟨h1,h2⟩:=ZE
        obtain ⟨g1,g2,g3⟩:=Ho e2 (hs (i,v) (by simp))
        have aW:x.cells.size=size:=by rw[g1,h1]
        obtain ⟨gk,qv⟩:=hc
        have ec:off+0+x.cells.toList.length≤cur.size:=by simp[aW,gk];omega
        obtain ⟨f1,f2⟩:=ZC x.cells.toList 0 off cur ec
        have ZF:Bg (aw σ.aa γ.w γ.Z γ.blk) (setCells cs off (cellsOf v)) (x.cells.zipIdx.foldl (fun cs (c,j)=>cs.setIfInBounds (off+j) c) cur):=by
          rw[ZD]
          refine⟨by rw[f1,Hs];exact gk,fun j y hj=>?_⟩
          rw[Nj _ _ _ (by rw[h1];exact h2)] at hj
          rw[f2 j]
          simp only[g7,sr,aW]
          rw[h1] at hj
          by_cases gp:off≤j∧j<off+size
          · rw[if_pos gp] at hj
            rw[if_pos gp]
            have:=g2 _ _ hj
            simpa [ay,eQ] using this
          · rw[if_neg gp] at hj
            rw[if_neg gp]
            exact qv j y hj
        obtain ⟨nZ,k1,k2⟩:=DU rest pv _ _ pG (by simpa using hl) (fun j p q hp hq=>hr (j+1) p q (by simpa using hp) (by simpa using hq)) (fun p hp=>hs p (by simp[hp])) ZF h
        refine⟨nZ,?_,k2⟩
        simp only[Instr.fill,hp]
        rw[if_neg ?_]
        · exact k1
        · simp[aW,gk];omega
      · simp at h
theorem Hn {os:List Ob} {w:World} {Z:Nat→Prop} {blk:fU} (z:List Value):Bg (aw os w Z blk) (z.map .lit) z.toArray:=by
  refine⟨by simp,fun j x hx=>?_⟩
  simp only[bN] at hx
  cases hj:z[j]? with
  | none=>simp[hj] at hx
  | some y =>
    simp[hj] at hx
    subst hx
    simp[eQ,hj]
    exact .lit y
theorem Hp {σ:St} {γ:Cx} (h:br σ γ) {a:Act} (ha:γ.tmps=a.tmps) (parts:Array (Nat × Operand)) :
    (parts.toList.map fun p=>(p.1,ev σ p.2)).length=(parts.map fun (i,x)=>(i,a.eval x)).toList.length ∧
    ∀ (j:Nat) (p:Nat × AV) (q:Nat × Value),(parts.toList.map fun p=>(p.1,ev σ p.2))[j]?=some p→(parts.map fun (i,x)=>(i,a.eval x)).toList[j]?=some q→p.1=q.1∧aw σ.aa γ.w γ.Z γ.blk p.2 q.2:=by
  refine⟨by simp,fun j p q hp hq=>?_⟩
  simp only[Array.toList_map,bN] at hp hq
  cases hj:parts.toList[j]? with
  | none=>simp[hj] at hp
  | some y =>
    simp only[hj,ed,da.injEq] at hp hq
    subst hp
    subst hq
    exact⟨rfl,sN h ha y.2⟩
theorem Zc {σ:St} {γ:Cx} (h:br σ γ) {a:Act} (ha:γ.tmps=a.tmps) {t:TypeId} {parts:Array (Nat × Operand)} {z:List Value} (hk:(ty P t).kind=3) (hz:(ty P t).zero=some z) {cs:List AV}
    (hf:lz (fun i=>((ty P t).aL[i]?).map fun f=>(f.1,f.2.2)) (z.map .lit) (parts.toList.map fun p=>(p.1,ev σ p.2))=some cs)
    (hs:(parts.toList.all fun p=>(cellsOf (ev σ p.2)).all cm)=true) (hp:((ty P t).aL.all fun f=>decide (0<f.2.2))=true) :
    ∃ cur,(Instr.build t (parts.map fun (i,x)=>(i,a.eval x))).run P γ.w=.ok (.agg cur) γ.w∧aw σ.aa γ.w γ.Z γ.blk (.agg cs) (.agg cur):=by
  obtain ⟨it,d,hi,hd,_,_,hzero⟩:=rL (P:=P) (t:=t) (by rw[hk];simp)
  obtain ⟨fs,hu,eW⟩:=Hx hk
  rw[hzero] at hz
  cases hv:it.zero with
  | none=>simp[hv] at hz
  | some zv =>
    simp[hv] at hz
    have je:z.toArray=zv.cells:=by rw[← hz]
    obtain ⟨hl,hr⟩:=Hp h ha parts
    obtain ⟨cur,h1,h2⟩:=DU (σ:=σ) (γ:=γ) _ _ _ _ cs hl hr (fun p hp=>by
      simp only[b7] at hp
      obtain ⟨q,hq,rfl⟩:=hp
      rw[fK] at hs
      exact hs q hq) (Hn z) hf
    refine⟨cur,run_build γ.w t _ cur ?_,.agg _ _ h2.1 h2.2⟩
    unfold Program.built
    rw[hi,hu]
    simp only[hv]
    have ZG:∀ (l:List Field),(∀ f∈l,0<uo P f.type)→l.mapM (fun f=>(P.info? f.type).map fun i=>(f.offset,i.size))=some (l.map fun f=>(f.offset,uo P f.type)):=by
      intro l
      induction l with
      | nil=>intro _;simp
      | cons f l ih =>
        intro hl
        have h0:=hl f (by simp)
        unfold uo at h0
        cases HF:P.info? f.type with
        | none=>simp[HF] at h0
        | some i =>
          simp only[List.mapM_cons,HF,ed,ih (fun g hg=>hl g (by simp[hg]))]
          simp[uo,HF]
    rw[ZG fs.toList (by
      intro f fV
      rw[eW] at hp
      simp only[List.all_map,fK] at hp
      have:=hp f fV
      simpa using this)]
    simp only
    rw[← je]
    have:(fun (x:Nat)=>((fs.toList.map fun f=>(f.offset,uo P f.type)).toArray[x]?))=(fun (i:Nat)=>((ty P t).aL[i]?).map fun (f:Nat × Nat × Nat)=>(f.1,f.2.2)):=by
      funext i
      rw[eW]
      simp
      cases fs[i]?<;>simp
    rw[this]
    exact h1
theorem Zd {σ:St} {γ:Cx} (h:br σ γ) {a:Act} (ha:γ.tmps=a.tmps) {t:TypeId} {parts:Array (Nat × Operand)} {z:List Value} (hk:(ty P t).kind=2) (hz:(ty P t).zero=some z) {cs:List AV}
    (hf:lz (fun i=>some (i * (ty P (ty P t).elem).size,(ty P (ty P t).elem).size)) (z.map .lit) (parts.toList.map fun p=>(p.1,ev σ p.2))=some cs)
    (hs:(parts.toList.all fun p=>(cellsOf (ev σ p.2)).all cm)=true) (dW:(ty P (ty P t).elem).kind≠99) :
    ∃ cur,(Instr.build t (parts.map fun (i,x)=>(i,a.eval x))).run P γ.w=.ok (.agg cur) γ.w∧aw σ.aa γ.w γ.Z γ.blk (.agg cs) (.agg cur):=by
  obtain ⟨it,d,hi,hd,_,_,hzero⟩:=rL (P:=P) (t:=t) (by rw[hk];simp)
  have hu:=Nh hk
  obtain ⟨ie,de,ZH,_,rK,_,_⟩:=rL dW
  rw[hzero] at hz
  cases hv:it.zero with
  | none=>simp[hv] at hz
  | some zv =>
    simp[hv] at hz
    have je:z.toArray=zv.cells:=by rw[← hz]
    obtain ⟨hl,hr⟩:=Hp h ha parts
    obtain ⟨cur,h1,h2⟩:=DU (σ:=σ) (γ:=γ) _ _ _ _ cs hl hr (fun p hp=>by
      simp only[b7] at hp
      obtain ⟨q,hq,rfl⟩:=hp
      rw[fK] at hs
      exact hs q hq) (Hn z) hf
    refine⟨cur,run_build γ.w t _ cur ?_,.agg _ _ h2.1 h2.2⟩
    unfold Program.built
    rw[hi,hu]
    simp only[hv,ZH]
    rw[← je,← rK]
    exact h1
theorem Ht (sz:Nat):∀ (n:Nat) (cs:List AV),(lA sz n cs).length=n
  | 0,_=>rfl
  | n+1,cs=>by simp[lA,Ht sz n]
theorem Nc (sz:Nat):∀ (n:Nat) (cs:List AV),n * sz≤cs.length→∀ row∈lA sz n cs,row.length=sz
  | 0,_,_,row,h=>by simp[lA] at h
  | n+1,cs,hl,row,h=>by
    rw[e9] at hl
    simp only[lA,List.mem_cons] at h
    rcases h with rfl | h
    · simp;omega
    · exact Nc sz n (cs.drop sz) (by simp;omega) row h
theorem Nf (sz:Nat):∀ (n:Nat) (cs:List AV) (r c:Nat) (v:AV),cellAt (lA sz n cs) r c=some v→cs[r * sz+c]?=some v
  | 0,_,r,c,v,h=>by simp[lA,cellAt] at h
  | n+1,cs,0,c,v,h=>by
    simp only[lA,cellAt,List.getElem?_cons_zero,Option.bind_some,sv] at h
    split at h
    · simpa using h
    · simp at h
  | n+1,cs,r+1,c,v,h=>by
    have h':cellAt (lA sz n (cs.drop sz)) r c=some v:=by simpa [lA,cellAt] using h
    have:=Nf sz n (cs.drop sz) r c v h'
    rw[nI] at this
    rw[e9]
    have e:r * sz+1 * sz+c=sz+(r * sz+c):=by omega
    rw[e]
    exact this
theorem Hq {os:List Ob} {w:World} {Z:Nat→Prop} {blk:fU} (z:List Value) (n m:Nat) (hm:m=n * z.length) (hz:0<z.length) :
    Bg (aw os w Z blk) ((aT n).flatMap fun _=>z.map .lit) ((Array.range m).map (z.toArray[· % z.toArray.size]!)):=by
  subst hm
  have hlen:((aT n).flatMap fun _=>z.map AV.lit).length=n * z.length:=by
    induction n with
    | zero=>simp
    | succ n ih=>rw[vf,oN,bJ,ih];simp[e9]
  refine⟨by simp[hlen],fun j x hx=>?_⟩
  have hj:j<n * z.length:=by rw[← hlen];exact (aS.1 hx).1
  have key:∀ (n j:Nat),j<n * z.length→((aT n).flatMap fun _=>z.map AV.lit)[j]?=some (.lit (z[j % z.length]'(yx _ hz))):=by
    intro n
    induction n with
    | zero=>intro j hj;simp at hj
    | succ n ih =>
      intro j hj
      have sQ:((aT n).flatMap fun _=>z.map AV.lit).length=n * z.length:=by
        clear ih hj hx hlen
        induction n with
        | zero=>simp
        | succ n ih=>rw[vf,oN,bJ,ih];simp[e9]
      rw[vf,oN]
      by_cases Ns:j<n * z.length
      · rw[cj (by rw[sQ];exact Ns)]
        exact ih j Ns
      · rw[eE (by rw[sQ];omega),sQ]
        rw[e9] at hj
        have bj:j - n * z.length<z.length:=by omega
        have vD:j % z.length=j - n * z.length:=by
          have:j=(j - n * z.length)+n * z.length:=by omega
          rw[this,Nat.add_mul_mod_self_right,Db bj]
          omega
        simp[bj,vD]
  rw[key n j hj] at hx
  simp at hx
  subst hx
  have hm:j % z.length<z.length:=yx _ hz
  simp[eQ,hj,hm]
  exact .lit _
end Go.Am

