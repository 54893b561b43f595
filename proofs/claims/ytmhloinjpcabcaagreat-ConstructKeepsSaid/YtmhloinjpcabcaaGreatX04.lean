import Derived.Test.YtmhloinjpcabcaaGreatX03
set_option linter.unusedVariables false
set_option linter.unusedSimpArgs false
set_option linter.unnecessarySimpa false
set_option linter.unusedSectionVars false
set_option maxHeartbeats 64000000
set_option maxRecDepth 20000
namespace Go.Am
variable {P:Program}
mutual
def ren (ρ:Nat→Nat):AV→AV
  | .ref id sz off len=>.ref (ρ id) sz off len
  | .ptr id r c=>.ptr (ρ id) r c
  | .agg cs=>.agg (renL ρ cs)
  | .tup cs=>.tup (renL ρ cs)
  | .fn f cs=>.fn f (renL ρ cs)
  | .ifc t v=>.ifc t (ren ρ v)
  | .mref id=>.mref (ρ id)
  | v=>v
def renL (ρ:Nat→Nat):List AV→List AV
  | []=>[]
  | v::vs=>ren ρ v::renL ρ vs
end
theorem renL_eq (ρ:Nat→Nat) (l:List AV):renL ρ l=l.map (ren ρ):=by
  induction l with
  | nil=>simp[renL]
  | cons v l ih=>simp[renL,ih]
def renO (ρ:Nat→Nat):Ob→Ob
  | .gone=>.gone
  | .var cs=>.var (cs.map (ren ρ))
  | .arr sz rows=>.arr sz (rows.map (·.map (ren ρ)))
  | .mp ag L=>.mp ag (L.map fun p=>(p.1,ren ρ p.2))
mutual
def flat:AV→Bool
  | .tree ..=>false
  | .taddr _=>false
  | .agg cs=>flatL cs
  | .tup cs=>flatL cs
  | .fn _ cs=>flatL cs
  | .ifc _ v=>flat v
  | _=>true
def flatL:List AV→Bool
  | []=>true
  | v::vs=>flat v && flatL vs
end
theorem flatL_mem {l:List AV} (h:flatL l=true):∀ v∈l,flat v=true:=by
  induction l with
  | nil=>intro v hv;simp at hv
  | cons x l ih =>
    simp only[flatL,Bool.and_eq_true] at h
    intro v hv
    rcases List.mem_cons.1 hv with rfl | hv
    · exact h.1
    · exact ih h.2 v hv
def flatO:Ob→Prop
  | .gone=>True
  | .var cs=>∀ v∈cs,flat v=true
  | .arr _ rows=>∀ row∈rows,∀ v∈row,flat v=true
  | .mp _ L=>∀ p∈L,flat p.2=true
theorem RelV.flatZ {os:List Ob} {w:World} {Z Z':Nat→Prop} {blk:Blk} {v:AV} {cv:Value} (h:RelV os w Z blk v cv) (hf:flat v=true):RelV os w Z' blk v cv:=by
  induction h with
  | undef cv=>exact .undef cv
  | frz v cv h=>cases h<;>first|exact .frz _ _ (.lit _)|simp[flat] at hf
  | taddr=>simp[flat] at hf
  | deadRef id sz off len cv h h1=>exact .deadRef id sz off len cv h h1
  | deadPtr id r c cv h h1=>exact .deadPtr id r c cv h h1
  | ref id sz off len b o cap cap' rows h hb hl hc hlc=>exact .ref id sz off len b o cap cap' rows h hb hl hc hlc
  | refNil id sz h hb=>exact .refNil id sz h hb
  | refEnd id sz off b x bo rows h hb hl=>exact .refEnd id sz off b x bo rows h hb hl
  | ptrV id c b cap cells h hb=>exact .ptrV id c b cap cells h hb
  | ptrA id r c sz b o cap rows h hb=>exact .ptrA id r c sz b o cap rows h hb
  | agg cs cvs hs _ ih=>simp only[flat] at hf;exact .agg cs cvs hs (fun j x hx=>ih j x hx (flatL_mem hf x (List.mem_of_getElem? hx)))
  | tup cs cvs hs _ ih=>simp only[flat] at hf;exact .tup cs cvs hs (fun j x hx=>ih j x hx (flatL_mem hf x (List.mem_of_getElem? hx)))
  | fn f cs cvs hs _ ih=>simp only[flat] at hf;exact .fn f cs cvs hs (fun j x hx=>ih j x hx (flatL_mem hf x (List.mem_of_getElem? hx)))
  | ifc t v cv _ ih=>simp only[flat] at hf;exact .ifc t v cv (ih hf)
  | mref id b ag L h hb=>exact .mref id b ag L h hb
  | deadM id cv h h1=>exact .deadM id cv h h1
theorem RelV.up {os os':List Ob} {w:World} {Z Z':Nat→Prop} {blk blk':Blk} {ρ:Nat→Nat} {v:AV} {cv:Value} (h:RelV os w Z blk v cv) (hz:∀ b,Z b→Z' b)
    (ho:∀ j o,os[j]?=some o→os'[ρ j]?=some (renO ρ o)∧(o≠.gone→blk' (ρ j)=blk j)):RelV os' w Z' blk' (ren ρ v) cv:=by
  induction h with
  | undef cv=>exact .undef cv
  | frz v cv h =>
    have h':RelV os' w Z' blk' v cv:=.frz _ _ (h.mono (fun b hb=>⟨hz b hb,rfl⟩))
    cases h<;>simpa [ren] using h'
  | taddr cells b o f hzb hc ht=>exact .taddr cells b o f (hz b hzb) hc (fun j x hx=>(ht j x hx).mono (fun b hb=>⟨hz b hb,rfl⟩))
  | deadRef id sz off len cv h h1=>exact .deadRef _ sz off len cv (ho id _ h).1 h1
  | deadPtr id r c cv h h1=>exact .deadPtr _ r c cv (ho id _ h).1 h1
  | ref id sz off len b o cap cap' rows h hb hl hc hlc =>
    obtain ⟨h1,h2⟩:=ho id _ h
    exact .ref _ sz off len b o cap cap' _ h1 ((h2 (by simp)).trans hb) (by simpa using hl) hc hlc
  | refNil id sz h hb =>
    obtain ⟨h1,h2⟩:=ho id _ h
    exact .refNil _ sz h1 ((h2 (by simp)).trans hb)
  | refEnd id sz off b x bo rows h hb hl =>
    obtain ⟨h1,h2⟩:=ho id _ h
    exact .refEnd _ sz off b x bo _ h1 ((h2 (by simp)).trans hb) (by simpa using hl)
  | ptrV id c b cap cells h hb =>
    obtain ⟨h1,h2⟩:=ho id _ h
    exact .ptrV _ c b cap _ h1 ((h2 (by simp)).trans hb)
  | ptrA id r c sz b o cap rows h hb =>
    obtain ⟨h1,h2⟩:=ho id _ h
    exact .ptrA _ r c sz b o cap _ h1 ((h2 (by simp)).trans hb)
  | agg cs cvs hs _ ih =>
    simp only[ren,renL_eq]
    refine .agg _ cvs (by simpa using hs) (fun j x hx=>?_)
    simp only[List.getElem?_map,Option.map_eq_some_iff] at hx
    obtain ⟨y,hy,rfl⟩:=hx
    exact ih j y hy
  | tup cs cvs hs _ ih =>
    simp only[ren,renL_eq]
    refine .tup _ cvs (by simpa using hs) (fun j x hx=>?_)
    simp only[List.getElem?_map,Option.map_eq_some_iff] at hx
    obtain ⟨y,hy,rfl⟩:=hx
    exact ih j y hy
  | fn f cs cvs hs _ ih =>
    simp only[ren,renL_eq]
    refine .fn f _ cvs (by simpa using hs) (fun j x hx=>?_)
    simp only[List.getElem?_map,Option.map_eq_some_iff] at hx
    obtain ⟨y,hy,rfl⟩:=hx
    exact ih j y hy
  | ifc t v cv _ ih=>simp only[ren];exact .ifc t _ cv ih
  | mref id b ag L h hb =>
    obtain ⟨h1,h2⟩:=ho id _ h
    exact .mref _ b ag _ h1 ((h2 (by simp)).trans hb)
  | deadM id cv h h1=>exact .deadM _ cv (ho id _ h).1 h1
theorem renO_gone {ρ:Nat→Nat} {o:Ob}:renO ρ o=.gone↔o=.gone:=by cases o<;>simp[renO]
theorem Ob.like_ren2 {ρ:Nat→Nat} {x y:Ob} (h:x.like y):(renO ρ x).like (renO ρ y):=by
  cases x<;>cases y<;>simp[Ob.like,renO] at h ⊢<;>exact h
theorem RelV.down {os os':List Ob} {w:World} {Z Z':Nat→Prop} {blk blk':Blk} {ρ:Nat→Nat} {v:AV} {cv:Value} (h:RelV os w Z blk v cv) (hz:∀ b,Z b→Z' b)
    (ho:∀ j x,os[ρ j]?=some x→∃ o,os'[j]?=some o∧(o=.gone∨(x=renO ρ o∧blk' j=blk (ρ j)))):∀ v',v=ren ρ v'→RelV os' w Z' blk' v' cv:=by
  induction h with
  | undef cv=>intro v' hv;cases v'<;>simp[ren] at hv;exact .undef cv
  | frz v cv h =>
    intro v' hv
    have h':RelV os' w Z' blk' v cv:=.frz _ _ (h.mono (fun b hb=>⟨hz b hb,rfl⟩))
    cases h<;>cases v'<;>simp[ren] at hv<;>(first|(subst hv;exact h')|(obtain ⟨rfl,rfl⟩:=hv;exact h'))
  | taddr cells b o f hzb hc ht =>
    intro v' hv
    cases v'<;>simp[ren] at hv
    subst hv
    exact .taddr _ b o f (hz b hzb) hc (fun j x hx=>(ht j x hx).mono (fun b hb=>⟨hz b hb,rfl⟩))
  | deadRef id sz off len cv h h1 =>
    intro v' hv
    cases v'<;>simp[ren] at hv
    obtain ⟨rfl,rfl,rfl,rfl⟩:=hv
    obtain ⟨o,h2,rfl | ⟨h3,_⟩⟩:=ho _ _ h
    · exact .deadRef _ _ _ _ cv h2 h1
    · have:=renO_gone.1 h3.symm
      subst this
      exact .deadRef _ _ _ _ cv h2 h1
  | deadPtr id r c cv h h1 =>
    intro v' hv
    cases v'<;>simp[ren] at hv
    obtain ⟨rfl,rfl,rfl⟩:=hv
    obtain ⟨o,h2,rfl | ⟨h3,_⟩⟩:=ho _ _ h
    · exact .deadPtr _ _ _ cv h2 h1
    · have:=renO_gone.1 h3.symm
      subst this
      exact .deadPtr _ _ _ cv h2 h1
  | ref id sz off len b o cap cap' rows h hb hl hc hlc =>
    intro v' hv
    cases v'<;>simp[ren] at hv
    obtain ⟨rfl,rfl,rfl,rfl⟩:=hv
    obtain ⟨x,h2,rfl | ⟨h3,h4⟩⟩:=ho _ _ h
    · exact .deadRef _ _ _ _ _ h2 rfl
    · cases x<;>simp[renO] at h3
      obtain ⟨rfl,rfl⟩:=h3
      exact .ref _ _ _ _ b o cap cap' _ h2 (h4.trans hb) (by simpa using hl) hc hlc
  | refNil id sz h hb =>
    intro v' hv
    cases v'<;>simp[ren] at hv
    obtain ⟨rfl,rfl,rfl,rfl⟩:=hv
    obtain ⟨x,h2,rfl | ⟨h3,h4⟩⟩:=ho _ _ h
    · exact .deadRef _ _ _ _ _ h2 rfl
    · cases x<;>simp[renO] at h3
      obtain ⟨rfl,h3⟩:=h3
      subst h3
      exact .refNil _ _ h2 (h4.trans hb)
  | refEnd id sz off b x bo rows h hb hl =>
    intro v' hv
    cases v'<;>simp[ren] at hv
    obtain ⟨rfl,rfl,rfl,rfl⟩:=hv
    obtain ⟨y,h2,rfl | ⟨h3,h4⟩⟩:=ho _ _ h
    · exact .deadRef _ _ _ _ _ h2 rfl
    · cases y<;>simp[renO] at h3
      obtain ⟨rfl,rfl⟩:=h3
      exact .refEnd _ _ _ b x bo _ h2 (h4.trans hb) (by simpa using hl)
  | ptrV id c b cap cells h hb =>
    intro v' hv
    cases v'<;>simp[ren] at hv
    obtain ⟨rfl,rfl,rfl⟩:=hv
    obtain ⟨y,h2,rfl | ⟨h3,h4⟩⟩:=ho _ _ h
    · exact .deadPtr _ _ _ _ h2 rfl
    · cases y<;>simp[renO] at h3
      exact .ptrV _ _ b cap _ h2 (h4.trans hb)
  | ptrA id r c sz b o cap rows h hb =>
    intro v' hv
    cases v'<;>simp[ren] at hv
    obtain ⟨rfl,rfl,rfl⟩:=hv
    obtain ⟨y,h2,rfl | ⟨h3,h4⟩⟩:=ho _ _ h
    · exact .deadPtr _ _ _ _ h2 rfl
    · cases y<;>simp[renO] at h3
      obtain ⟨rfl,rfl⟩:=h3
      exact .ptrA _ _ _ _ b o cap _ h2 (h4.trans hb)
  | agg cs cvs hs _ ih =>
    intro v' hv
    cases v'<;>simp[ren,renL_eq] at hv
    rename_i cs'
    subst hv
    exact .agg _ cvs (by simpa using hs) (fun j x hx=>ih j (ren ρ x) (by simp[hx]) x rfl)
  | tup cs cvs hs _ ih =>
    intro v' hv
    cases v'<;>simp[ren,renL_eq] at hv
    rename_i cs'
    subst hv
    exact .tup _ cvs (by simpa using hs) (fun j x hx=>ih j (ren ρ x) (by simp[hx]) x rfl)
  | fn f cs cvs hs _ ih =>
    intro v' hv
    cases v'<;>simp[ren,renL_eq] at hv
    obtain ⟨rfl,hv⟩:=hv
    subst hv
    exact .fn _ _ cvs (by simpa using hs) (fun j x hx=>ih j (ren ρ x) (by simp[hx]) x rfl)
  | ifc t v cv _ ih =>
    intro v' hv
    cases v'<;>simp[ren] at hv
    obtain ⟨rfl,hv⟩:=hv
    exact .ifc _ _ cv (ih _ hv)
  | mref id b ag L h hb =>
    intro v' hv
    cases v'<;>simp[ren] at hv
    subst hv
    obtain ⟨y,h2,rfl | ⟨h3,h4⟩⟩:=ho _ _ h
    · exact .deadM _ _ h2 rfl
    · cases y<;>simp[renO] at h3
      obtain ⟨rfl,h3⟩:=h3
      exact .mref _ b _ _ h2 (h4.trans hb)
  | deadM id cv h h1 =>
    intro v' hv
    cases v'<;>simp[ren] at hv
    subst hv
    obtain ⟨y,h2,rfl | ⟨h3,h4⟩⟩:=ho _ _ h
    · exact .deadM _ _ h2 h1
    · exact .deadM _ _ (by rw[h2,renO_gone.1 h3.symm]) h1
def Callable (P : Program) (f : FuncId) : Prop := ∃ fn, P.funcs[f]? = some fn ∧ (fn.name == "runtime.NumGoroutine") = false ∧ fn.body.isNone = false
def Holds (P:Program) (f:FuncId) (args:List AV) (objs:List Ob) (res:AV) (objs':List Ob):Prop :=
  Callable P f∧∀ γ:Cx,γ.tmps.size=args.length→Sim ⟨fun k=>args.getD k .undef,objs⟩ γ →
    Calls P f γ.tmps γ.w (fun e w'=>∃ cv γ',e=.returned cv∧γ'.w=w'∧γ'.tmps = #[cv]∧Sim ⟨fun k=>[res].getD k .undef,objs'⟩ γ'∧Fr objs γ objs' γ')
inductive Frz (σ:St) (kp:Nat→Prop):AV→AV→Prop
  | lit (x:Value):Frz σ kp (.lit x) (.lit x)
  | tree (s:Nat) (r:List (List AV)):Frz σ kp (.tree s r) (.tree s r)
  | nil (sz:Nat):Frz σ kp (.tree sz []) (.lit (.slice none 0 0))
  | ref (id sz off len:Nat) (rows rows':List (List AV)) (g:Nat→Nat→AV) (ho:σ.objs[id]?=some (.arr sz rows)) (hsel:¬ kp id) (hl:rows'.length=((rows.drop off).take len).length) (hw:∀ row∈rows',row.length=sz)
      (h1:∀ r c v,cellAt rows' r c=some v→cellAt ((rows.drop off).take len) r c=some (g r c)) (h2:∀ r c v,cellAt rows' r c=some v→Frz σ kp v (g r c)):Frz σ kp (.tree sz rows') (.ref id sz off len)
inductive ArgR (σ:St) (kp:Nat→Prop) (ρ:Nat→Nat) (snap:Bool):AV→AV→Prop
  | same (v:AV):ArgR σ kp ρ snap v (ren ρ v)
  | snap (c d:AV) (hs:snap=true) (h:Frz σ kp c d):ArgR σ kp ρ snap c d
  | agg (cs ds:List AV) (hl:cs.length=ds.length) (h:∀ (j:Nat) c d,cs[j]?=some c→ds[j]?=some d→ArgR σ kp ρ snap c d):ArgR σ kp ρ snap (.agg cs) (.agg ds)
  | tup (cs ds:List AV) (hl:cs.length=ds.length) (h:∀ (j:Nat) c d,cs[j]?=some c→ds[j]?=some d→ArgR σ kp ρ snap c d):ArgR σ kp ρ snap (.tup cs) (.tup ds)
def rho (n:Nat) (sel:List Nat) (j:Nat):Nat:=if j<sel.length then sel.getD j 0 else n+(j - sel.length)
def mergeO (objs:List Ob):List Nat→List Ob→List Ob
  | i::sel,o::new=>mergeO (objs.set i o) sel new
  | [],new=>objs++new
  | _::_,[]=>objs
theorem mergeO_length (sel:List Nat):∀ (objs new:List Ob),sel.length≤new.length→(mergeO objs sel new).length=objs.length+(new.length - sel.length):=by
  induction sel with
  | nil=>intro objs new _;simp[mergeO]
  | cons i sel ih =>
    intro objs new h
    cases new with
    | nil=>simp at h
    | cons o new=>simp only[mergeO];rw[ih _ _ (by simpa using h)];simp
theorem mergeO_sel (sel:List Nat):∀ (objs new:List Ob),sel.length≤new.length→sel.Nodup→(∀ i∈sel,i<objs.length)→∀ j,j<sel.length→(mergeO objs sel new)[sel.getD j 0]?=new[j]?:=by
  induction sel with
  | nil=>intro objs new _ _ _ j hj;simp at hj
  | cons i sel ih =>
    intro objs new h hn hl j hj
    cases new with
    | nil=>simp at h
    | cons o new =>
      simp only[mergeO]
      rw[List.nodup_cons] at hn
      have hi:=hl i (by simp)
      have h':sel.length≤new.length:=by simpa using h
      cases j with
      | zero =>
        simp only[List.getD_cons_zero,List.getElem?_cons_zero]
        have key:∀ (sel:List Nat) (objs new:List Ob),sel.length≤new.length→i ∉ sel→i<objs.length→(mergeO objs sel new)[i]?=objs[i]?:=by
          intro sel
          induction sel with
          | nil=>intro objs new _ _ hi;simp only[mergeO];rw[List.getElem?_append_left hi]
          | cons k sel ih2 =>
            intro objs new h hni hi
            cases new with
            | nil=>simp at h
            | cons o new =>
              simp only[List.mem_cons,not_or] at hni
              simp only[mergeO]
              rw[ih2 _ _ (by simpa using h) hni.2 (by simpa using hi),List.getElem?_set_ne (Ne.symm hni.1)]
        rw[key sel _ _ h' hn.1 (by simpa using hi)]
        simp[hi]
      | succ j =>
        simp only[List.getD_cons_succ,List.getElem?_cons_succ]
        exact ih _ _ h' hn.2 (fun k hk=>by simpa using hl k (by simp[hk])) j (by simpa using hj)
theorem mergeO_other (sel:List Nat):∀ (objs new:List Ob),sel.length≤new.length→∀ i,i ∉ sel→i<objs.length→(mergeO objs sel new)[i]?=objs[i]?:=by
  induction sel with
  | nil=>intro objs new _ i _ hi;simp only[mergeO];rw[List.getElem?_append_left hi]
  | cons k sel ih =>
    intro objs new h i hni hi
    cases new with
    | nil=>simp at h
    | cons o new =>
      simp only[List.mem_cons,not_or] at hni
      simp only[mergeO]
      rw[ih _ _ (by simpa using h) i hni.2 (by simpa using hi),List.getElem?_set_ne (Ne.symm hni.1)]
theorem mergeO_new (sel:List Nat):∀ (objs new:List Ob),sel.length≤new.length→∀ m,(mergeO objs sel new)[objs.length+m]?=new[sel.length+m]?:=by
  induction sel with
  | nil=>intro objs new _ m;simp only[mergeO];rw[List.getElem?_append_right (by omega)];simp
  | cons k sel ih =>
    intro objs new h m
    cases new with
    | nil=>simp at h
    | cons o new =>
      simp only[mergeO]
      have:=ih (objs.set k o) new (by simpa using h) m
      simp only[List.length_set] at this
      rw[this]
      simp only[List.length_cons]
      have e:sel.length+1+m=(sel.length+m)+1:=by omega
      rw[e];simp
end Go.Am
namespace Go.Am
variable {P:Program}
def callW (P:Program) (f:FuncId) (args:List AV) (σ:St) (K:AV→St→Prop):Prop :=
  ∃ (sel:List Nat) (snap:Bool) (cargs:List AV) (cobjs:List Ob) (res:AV) (cobjs':List Ob),Holds P f cargs cobjs res cobjs' ∧
    (sel.Nodup∧cobjs.length=sel.length∧(∀ (j:Nat) o,cobjs[j]?=some o→σ.objs[sel.getD j 0]?=some (renO (rho σ.objs.length sel) o)) ∧
      cargs.length=args.length∧(∀ (j:Nat) c d,cargs[j]?=some c→args[j]?=some d→ArgR σ (·∈sel) (rho σ.objs.length sel) snap c d) ∧
      (snap=true→flat res=true∧∀ o∈cobjs',flatO o)) ∧
    K (ren (rho σ.objs.length sel) res) { σ with objs:=mergeO σ.objs sel (cobjs'.map (renO (rho σ.objs.length sel))) }
theorem Frz.treeR {σ:St} {γ:Cx} (h:Sim σ γ) {kp:Nat→Prop} {γc:Cx}
    (hz:∀ b,γ.Z b→γc.Z b) (hw:γc.w=γ.w) (hzs:∀ id b o cap,¬ kp id→Live σ.objs id→γ.blk id=some (b,o,cap)→γc.Z b)
    {c d:AV} (ha:Frz σ kp c d):∀ cv,RelV σ.objs γ.w γ.Z γ.blk d cv→TreeR γc.w γc.Z c cv:=by
  induction ha with
  | lit x=>intro cv hv;rw[hv.lit_inv];exact .lit x
  | tree s r=>intro cv hv;exact hv.tree_inv.mono (fun b hb=>⟨hz b hb,by rw[hw]⟩)
  | nil sz=>intro cv hv;rw[hv.lit_inv];exact .nil sz 0 none
  | ref id sz off len rows rows' g hob hsel hl0 hw0 hg1 hg2 ih =>
    intro cv hv
    obtain ⟨h0,hrl,hblk⟩:=h.obs id _ hob
    have hlive:Live σ.objs id:=⟨_,hob,by simp⟩
    cases hv with
    | frz _ _ h=>cases h
    | deadRef _ _ _ _ _ h=>rw[hob] at h;simp at h
    | refNil _ _ h' hb =>
      have:rows'=[]:=List.eq_nil_of_length_eq_zero (by simpa using hl0)
      subst this;exact TreeR.nil sz 0 none
    | refEnd _ _ _ b x bo rows'' h' hb hl =>
      have:rows'=[]:=List.eq_nil_of_length_eq_zero (by simpa using hl0)
      subst this;exact TreeR.nil sz 0 (some ⟨b,x,none⟩)
    | ref _ _ _ _ b o cap cap' rows'' h' hb hl hc hlc =>
      rw[hob] at h';simp at h'
      subst h'
      rcases hblk with ⟨h1,_⟩ | ⟨b',o',cap'',cur,t,h1,h2,h3,h4,h5,h6⟩
      · rw[hb] at h1;simp at h1
      · rw[hb] at h1;simp at h1
        obtain ⟨rfl,rfl,rfl⟩:=h1
        have hlen:((rows.drop off).take len).length=len:=by simp;omega
        have hcell:∀ r c v,cellAt ((rows.drop off).take len) r c=some v→cellAt rows (off+r) c=some v∧r<len:=by
          intro r c v hv
          simp only[cellAt,List.getElem?_take,List.getElem?_drop] at hv
          split at hv
          · exact⟨hv,by assumption⟩
          · simp at hv
        have hbz:γc.Z b:=hzs id b o cap hsel hlive hb
        have:=TreeR.tree (w:=γc.w) (Z:=γc.Z) sz rows' b (o+off * sz) cap' (fun r c=>cur.getD (o+((off+r) * sz+c)) Go.undef) hbz
          hw0 (by rw[hl0,hlen];exact hlc)
          (fun r c v hv=>by
            obtain ⟨hv',hr⟩:=hcell r c _ (hg1 r c v hv)
            obtain ⟨hr',hc'⟩:=cellAt_lt hrl hv'
            have hlt:=flat_lt (show off+r<cap by omega) hc'
            rw[hw]
            have e:o+off * sz+(r * sz+c)=o+((off+r) * sz+c):=by rw[Nat.add_mul];omega
            rw[e]
            exact cell_getD h2 (by omega))
          (fun r c v hv=>by
            obtain ⟨hv',_⟩:=hcell r c _ (hg1 r c v hv)
            exact ih r c v hv _ (h6 _ _ _ hv'))
        rw[hl0,hlen] at this
        exact this
theorem ArgR.rel {σ:St} {γ:Cx} (h:Sim σ γ) {kp:Nat→Prop} {ρ:Nat→Nat} {cobjs:List Ob} {snap:Bool} {γc:Cx}
    (hz:∀ b,γ.Z b→γc.Z b) (hw:γc.w=γ.w) (hzs:snap=true→∀ id b o cap,¬ kp id→Live σ.objs id→γ.blk id=some (b,o,cap)→γc.Z b)
    (ho:∀ j x,σ.objs[ρ j]?=some x→∃ o,cobjs[j]?=some o∧(o=.gone∨(x=renO ρ o∧γc.blk j=γ.blk (ρ j))))
    {c d:AV} (ha:ArgR σ kp ρ snap c d):∀ cv,RelV σ.objs γ.w γ.Z γ.blk d cv→RelV cobjs γc.w γc.Z γc.blk c cv:=by
  induction ha with
  | same v =>
    intro cv hv
    rw[hw]
    exact hv.down hz ho v rfl
  | snap c d hs hf =>
    intro cv hv
    exact .frz _ _ (hf.treeR h hz hw (hzs hs) cv hv)
  | agg cs ds hl _ ih =>
    intro cv hv
    obtain ⟨cvs,rfl,h1,h2⟩:=hv.agg_inv
    refine .agg cs cvs (by omega) (fun j x hx=>?_)
    have hj:j<ds.length:=by have:=(List.getElem?_eq_some_iff.1 hx).1;omega
    exact ih j x ds[j] hx (by simp[hj]) _ (h2 j _ (by simp[hj]))
  | tup cs ds hl _ ih =>
    intro cv hv
    obtain ⟨cvs,rfl,h1,h2⟩:=hv.tup_inv
    refine .tup cs cvs (by omega) (fun j x hx=>?_)
    have hj:j<ds.length:=by have:=(List.getElem?_eq_some_iff.1 hx).1;omega
    exact ih j x ds[j] hx (by simp[hj]) _ (h2 j _ (by simp[hj]))
theorem rho_lt {n:Nat} {sel:List Nat} (_hs:∀ i∈sel,i<n) {j:Nat} (h:rho n sel j<n):j<sel.length∧rho n sel j=sel.getD j 0:=by
  unfold rho at h ⊢
  split
  · exact⟨by assumption,rfl⟩
  · rename_i hj
    rw[if_neg hj] at h
    omega
theorem getD_mem {sel:List Nat} {j:Nat} (h:j<sel.length):sel.getD j 0∈sel:=by
  rw[List.getD_eq_getElem?_getD];simp[h]
theorem nodup_getD {sel:List Nat} (hn:sel.Nodup) {i j:Nat} (hi:i<sel.length) (hj:j<sel.length) (h:sel.getD i 0=sel.getD j 0):i=j:=by
  rw[List.getD_eq_getElem?_getD,List.getD_eq_getElem?_getD] at h
  simp[hi,hj] at h
  exact (List.getElem_inj hn).1 h
theorem exists_sel {sel:List Nat} {i:Nat} (h:i∈sel) :∃j,j<sel.length∧sel.getD j 0=i:=by
  obtain ⟨j,hj⟩:=List.mem_iff_getElem?.1 h
  have:=(List.getElem?_eq_some_iff.1 hj).1
  exact⟨j,this,by rw[List.getD_eq_getElem?_getD,hj];rfl⟩
def HoldsR (P:Program) (f:FuncId) (args:List AV) (objs:List Ob) (Post:AV→List Ob→Prop):Prop :=
  Callable P f∧∀ γ:Cx,γ.tmps.size=args.length→Sim ⟨fun k=>args.getD k .undef,objs⟩ γ →
    Calls P f γ.tmps γ.w (fun e w'=>∃ res objs' cv γ',Post res objs'∧e=.returned cv∧γ'.w=w'∧γ'.tmps = #[cv]∧Sim ⟨fun k=>[res].getD k .undef,objs'⟩ γ'∧Fr objs γ objs' γ')
def callWR (P:Program) (f:FuncId) (args:List AV) (σ:St) (K:AV→St→Prop):Prop :=
  ∃ (sel:List Nat) (snap:Bool) (cargs:List AV) (cobjs:List Ob) (Post:AV→List Ob→Prop),HoldsR P f cargs cobjs Post ∧
    (sel.Nodup∧cobjs.length=sel.length∧(∀ (j:Nat) o,cobjs[j]?=some o→σ.objs[sel.getD j 0]?=some (renO (rho σ.objs.length sel) o)) ∧
      cargs.length=args.length∧(∀ (j:Nat) c d,cargs[j]?=some c→args[j]?=some d→ArgR σ (·∈sel) (rho σ.objs.length sel) snap c d)) ∧
    ∀ res cobjs',Post res cobjs'→(snap=true→flat res=true∧∀ o∈cobjs',flatO o) ∧
      K (ren (rho σ.objs.length sel) res) { σ with objs:=mergeO σ.objs sel (cobjs'.map (renO (rho σ.objs.length sel))) }
theorem call_soundR {σ:St} {γ:Cx} (h:Sim σ γ) {f:FuncId} {args:List AV} {argv:Array Value} (hsz:argv.size=args.length) (harg:∀ (j:Nat) d,args[j]?=some d→RelV σ.objs γ.w γ.Z γ.blk d (argv.getD j Go.undef))
    {K:AV→St→Prop} (hc:callWR P f args σ K) :
    Calls P f argv γ.w (fun e w'=>∃ cv v σ' γ',e=.returned cv∧γ'.w=w'∧γ'.tmps=γ.tmps∧Sim σ' γ'∧Fr σ.objs γ σ'.objs γ'∧RelV σ'.objs γ'.w γ'.Z γ'.blk v cv∧K v σ'∧σ'.env=σ.env):=by
  obtain ⟨sel,snap,cargs,cobjs,Post,hH,⟨hnd,hcl,hco,hal,hargs⟩,hKP⟩:=hc
  have hsl:∀ i∈sel,i<σ.objs.length:=by
    intro i hi
    obtain ⟨j,hj,rfl⟩:=exists_sel hi
    have:j<cobjs.length:=by omega
    exact (List.getElem?_eq_some_iff.1 (hco j cobjs[j] (by simp[this]))).1
  let ρ:=rho σ.objs.length sel
  let S:Nat→Prop:=fun b=>snap=true∧∃ id o cap,id ∉ sel∧Live σ.objs id∧γ.blk id=some (b,o,cap)
  let γc:Cx:={ w:=γ.w,tmps:=argv,Z:=fun b=>γ.Z b∨S b,blk:=fun j=>if j<sel.length then γ.blk (sel.getD j 0) else none }
  have hdown:∀ j x,σ.objs[ρ j]?=some x→∃ o,cobjs[j]?=some o∧(o=.gone∨(x=renO ρ o∧γc.blk j=γ.blk (ρ j))):=by
    intro j x hx
    obtain ⟨hj,hr⟩:=rho_lt hsl (List.getElem?_eq_some_iff.1 hx).1
    have hjc:j<cobjs.length:=by omega
    have:=hco j cobjs[j] (by simp[hjc])
    refine⟨cobjs[j],by simp[hjc],.inr ⟨?_,?_⟩⟩
    · have hx':σ.objs[rho σ.objs.length sel j]?=some x:=hx
      rw[hr,this] at hx'
      simpa using hx'.symm
    · show (if j<sel.length then γ.blk (sel.getD j 0) else none)=γ.blk (rho σ.objs.length sel j)
      rw[if_pos hj,hr]
  have hzc:∀ b,γ.Z b→γc.Z b:=fun b hb=>.inl hb
  have hclive:∀ j,Live cobjs j→Live σ.objs (sel.getD j 0)∧j<sel.length:=by
    rintro j ⟨o,ho,hg⟩
    have hj:=(List.getElem?_eq_some_iff.1 ho).1
    exact⟨⟨_,hco j o ho,fun e=>hg (renO_gone.1 e)⟩,by omega⟩
  have hblt:=fun {i b o c}=>h.blt (i:=i) (b:=b) (o:=o) (c:=c)
  have hsimc:Sim ⟨fun k=>cargs.getD k .undef,cobjs⟩ γc:=by
    refine⟨fun k=>?_,?_,?_,?_,?_⟩
    · rcases Nat.lt_or_ge k cargs.length with hk | hk
      · have e:cargs.getD k .undef=cargs[k]:=by simp[hk]
        show RelV cobjs γc.w γc.Z γc.blk (cargs.getD k .undef) _
        rw[e]
        have hka:k<args.length:=by omega
        exact (hargs k cargs[k] args[k] (by simp[hk]) (by simp[hka])).rel h hzc rfl (fun hs id b o cap hid hl hb=>.inr ⟨hs,id,o,cap,hid,hl,hb⟩) hdown _ (harg k _ (by simp[hka]))
      · have e:cargs.getD k .undef=.undef:=by simp[hk]
        show RelV cobjs γc.w γc.Z γc.blk (cargs.getD k .undef) _
        rw[e]
        exact .undef _
    · intro j o ho
      have hj:=(List.getElem?_eq_some_iff.1 ho).1
      have hjs:j<sel.length:=by rw[← hcl];exact hj
      have hob:=h.obs _ _ (hco j o ho)
      have hb:γc.blk j=γ.blk (sel.getD j 0):=by show (if j<sel.length then _ else _)=_;rw[if_pos hjs]
      cases o with
      | gone=>trivial
      | var cells =>
        obtain ⟨b,cap,cur,t,h1,h2,h3,h4⟩:=hob
        exact⟨b,cap,cur,t,hb.trans h1,h2,by simpa using h3,fun c v hv=>(h4 c (ren ρ v) (by simp[hv];rfl)).down hzc hdown v rfl⟩
      | mp ag L =>
        obtain ⟨b,f,h1,h2,h3,h4⟩:=hob
        refine⟨b,f,hb.trans h1,?_,fun p hp=>h3 (p.1,ren ρ p.2) (List.mem_map_of_mem (f:=fun p:List Int × AV=>(p.1,ren ρ p.2)) hp),fun j p hp=>(h4 j (p.1,ren ρ p.2) (by simp only[List.getElem?_map,hp];rfl)).down hzc hdown p.2 rfl⟩
        rw[mpE_map,List.length_map] at h2;exact h2
      | arr sz rows =>
        obtain ⟨h0,hr,hob⟩:=hob
        refine⟨h0,fun row hrow=>by simpa using hr (row.map (ren ρ)) (List.mem_map_of_mem hrow),?_⟩
        rcases hob with ⟨h1,h2⟩ | ⟨b,o,cap,cur,t,h1,h2,h3,h4,h5,h6⟩
        · exact .inl ⟨hb.trans h1,by simpa using h2⟩
        · refine .inr ⟨b,o,cap,cur,t,hb.trans h1,h2,h3,by simpa using h4,h5,fun r c v hv=>(h6 r c (ren ρ v) ?_).down hzc hdown v rfl⟩
          simp only[cellAt,List.getElem?_map] at hv ⊢
          cases hrr:rows[r]? with
          | none=>simp[hrr] at hv
          | some row=>simp[hrr] at hv ⊢;exact⟨v,hv,rfl⟩
    · intro i j b o c o' c' hi hj hbi hbj
      obtain ⟨h1,h2⟩:=hclive i hi
      obtain ⟨h3,h4⟩:=hclive j hj
      have e1:γc.blk i=γ.blk (sel.getD i 0):=by show (if i<sel.length then _ else _)=_;rw[if_pos h2]
      have e2:γc.blk j=γ.blk (sel.getD j 0):=by show (if j<sel.length then _ else _)=_;rw[if_pos h4]
      exact nodup_getD hnd h2 h4 (h.inj _ _ b o c o' c' h1 h3 (e1 ▸ hbi) (e2 ▸ hbj))
    · rintro b ⟨i,o,c,hi,hb⟩ hz
      obtain ⟨h1,h2⟩:=hclive i hi
      have e1:γc.blk i=γ.blk (sel.getD i 0):=by show (if i<sel.length then _ else _)=_;rw[if_pos h2]
      rw[e1] at hb
      rcases hz with hz | ⟨_,id,o',cap',hid,hl,hb'⟩
      · exact h.nz b ⟨_,o,c,h1,hb⟩ hz
      · have:=h.inj _ _ b o c o' cap' h1 hl hb hb'
        exact hid (this ▸ getD_mem h2)
    · rintro b (hb | ⟨_,id,o,cap,_,hl,hb⟩)
      · exact h.zlt b hb
      · exact hblt hl hb
  have hcall:=hH.2 γc (by show argv.size=_;omega) hsimc
  refine hcall.mono ?_
  rintro e w' ⟨res,cobjs',cv,γ',hpost,rfl,rfl,htm,hs',hf'⟩
  obtain ⟨hflat,hK⟩:=hKP res cobjs' hpost
  have hlen':sel.length≤cobjs'.length:=by have:=hf'.len;omega
  let new:=cobjs'.map (renO ρ)
  have hnl:sel.length≤new.length:=by simpa [new] using hlen'
  let objs'':=mergeO σ.objs sel new
  let γ'':Cx:={ w:=γ'.w,tmps:=γ.tmps,Z:=fun b=>γ'.Z b∧¬ S b,blk:=fun i=>if i<σ.objs.length then γ.blk i else γ'.blk (sel.length+(i - σ.objs.length)) }
  have hup:∀ j o,cobjs'[j]?=some o→objs''[ρ j]?=some (renO ρ o)∧(o≠.gone→γ''.blk (ρ j)=γ'.blk j):=by
    intro j o ho
    by_cases hj:j<sel.length
    · have e:ρ j=sel.getD j 0:=by show rho _ _ _=_;simp only[rho];rw[if_pos hj]
      have hmem:=hsl _ (getD_mem hj)
      refine⟨?_,fun hg=>?_⟩
      · rw[e]
        show (mergeO σ.objs sel new)[sel.getD j 0]?=_
        rw[mergeO_sel sel σ.objs new hnl hnd hsl j hj]
        simp[new,ho]
      · rw[e]
        show (if sel.getD j 0<σ.objs.length then _ else _)=_
        rw[if_pos hmem]
        have:=(hf'.old j (by omega) ⟨o,ho,hg⟩).1
        rw[this]
        show _=if j<sel.length then _ else _
        rw[if_pos hj]
    · have e:ρ j=σ.objs.length+(j - sel.length):=by show rho _ _ _=_;simp only[rho];rw[if_neg hj]
      have e2:sel.length+(j - sel.length)=j:=by omega
      refine⟨?_,fun hg=>?_⟩
      · rw[e]
        show (mergeO σ.objs sel new)[_]?=_
        rw[mergeO_new sel σ.objs new hnl,e2]
        simp[new,ho]
      · rw[e]
        show (if σ.objs.length+(j - sel.length)<σ.objs.length then _ else γ'.blk (sel.length+(σ.objs.length+(j - sel.length) - σ.objs.length)))=_
        rw[if_neg (by omega)]
        congr 1;omega
  have hSz:∀ b,S b→¬ γ.Z b:=by
    rintro b ⟨_,id,o,cap,_,hl,hb⟩
    exact h.nz b ⟨id,o,cap,hl,hb⟩
  have hownc:∀ b,Owned cobjs γc.blk b→∃ i∈sel,∃ o cap,Live σ.objs i∧γ.blk i=some (b,o,cap):=by
    rintro b ⟨j,o,c,hl,hb⟩
    obtain ⟨h1,h2⟩:=hclive j hl
    have e1:γc.blk j=γ.blk (sel.getD j 0):=by show (if j<sel.length then _ else _)=_;rw[if_pos h2]
    exact⟨_,getD_mem h2,o,c,h1,e1 ▸ hb⟩
  have hkeep:∀ i,i ∉ sel→Live σ.objs i→∀ b o c,γ.blk i=some (b,o,c)→γ'.w.heap[b]?=γ.w.heap[b]?:=by
    intro i hi hl b o c hb
    refine hf'.keep b (hblt hl hb) (fun ho=>?_)
    obtain ⟨i',hi',o',c',hl',hb'⟩:=hownc b ho
    have:=h.inj _ _ b o c o' c' hl hl' hb hb'
    exact hi (this ▸ hi')
  have hkeepR:∀ v cv,RelV σ.objs γ.w γ.Z γ.blk v cv→RelV objs'' γ''.w γ''.Z γ''.blk v cv:=by
    intro v cv hv
    refine hv.mono (fun b hb=>⟨⟨hf'.z0 b (hzc b hb),fun hs=>hSz b hs hb⟩,?_⟩) (fun i o ho=>?_)
    · refine hf'.keep b (h.zlt b hb) (fun ho=>?_)
      obtain ⟨i',_,o',c',hl',hb'⟩:=hownc b ho
      exact h.nz b ⟨i',o',c',hl',hb'⟩ hb
    · have hi:=(List.getElem?_eq_some_iff.1 ho).1
      have hbk:γ''.blk i=γ.blk i:=by show (if i<σ.objs.length then _ else _)=_;rw[if_pos hi]
      by_cases his:i∈sel
      · obtain ⟨j,hj,rfl⟩:=exists_sel his
        have hjc:j<cobjs'.length:=by omega
        have hob'':objs''[sel.getD j 0]?=some (renO ρ cobjs'[j]):=by
          show (mergeO σ.objs sel new)[sel.getD j 0]?=_
          rw[mergeO_sel sel σ.objs new hnl hnd hsl j hj]
          simp[new,hjc]
        by_cases hg:cobjs'[j]=.gone
        · left;rw[hob'',hg];rfl
        · right
          refine⟨hbk,_,hob'',?_⟩
          obtain ⟨_,x,x',hx,hx',hlk⟩:=hf'.old j (by omega) ⟨cobjs'[j],by simp[hjc],hg⟩
          have e1:cobjs'[j]=x':=by simpa [hjc] using hx'
          have e2:=hco j x hx
          rw[ho] at e2
          simp at e2
          rw[e1,e2]
          exact Ob.like_ren2 hlk
      · have hob'':objs''[i]?=some o:=by
          show (mergeO σ.objs sel new)[i]?=_
          rw[mergeO_other sel σ.objs new hnl i his hi];exact ho
        by_cases hg:o=.gone
        · subst hg;exact .inl hob''
        · exact .inr ⟨hbk,o,hob'',Ob.like_refl hg⟩
  have hupR:∀ v cv,RelV cobjs' γ'.w γ'.Z γ'.blk v cv→(snap=true→flat v=true)→RelV objs'' γ''.w γ''.Z γ''.blk (ren ρ v) cv:=by
    intro v cv hv hfl
    by_cases hsn:snap=true
    · exact (hv.flatZ (Z':=γ''.Z) (hfl hsn)).up (fun b hb=>hb) hup
    · exact hv.up (fun b hb=>⟨hb,fun hs=>hsn hs.1⟩) hup
  have hl2:∀ i,Live objs'' i→(i<σ.objs.length∧i ∉ sel∧Live σ.objs i∧γ''.blk i=γ.blk i)∨∃ j,Live cobjs' j∧i=ρ j∧γ''.blk i=γ'.blk j:=by
    rintro i ⟨o,ho,hg⟩
    have hlen:=(List.getElem?_eq_some_iff.1 ho).1
    have hml:objs''.length=σ.objs.length+(new.length - sel.length):=mergeO_length sel σ.objs new hnl
    have hnn:new.length=cobjs'.length:=by simp[new]
    rcases Nat.lt_or_ge i σ.objs.length with hi | hi
    · by_cases his:i∈sel
      · right
        obtain ⟨j,hj,rfl⟩:=exists_sel his
        have hjc:j<cobjs'.length:=by omega
        have e:ρ j=sel.getD j 0:=by show rho _ _ _=_;simp only[rho];rw[if_pos hj]
        have hx:=hup j cobjs'[j] (by simp[hjc])
        rw[e] at hx
        rw[ho] at hx
        simp only[Option.some.injEq] at hx
        have hg':cobjs'[j]≠.gone:=by intro h0;apply hg;rw[hx.1,h0];rfl
        exact⟨j,⟨_,by simp[hjc],hg'⟩,e.symm,hx.2 hg'⟩
      · left
        have:objs''[i]?=σ.objs[i]?:=mergeO_other sel σ.objs new hnl i his hi
        rw[this] at ho
        exact⟨hi,his,⟨o,ho,hg⟩,by show (if i<σ.objs.length then _ else _)=_;rw[if_pos hi]⟩
    · right
      have hjc:sel.length+(i - σ.objs.length)<cobjs'.length:=by omega
      have e:ρ (sel.length+(i - σ.objs.length))=i:=by
        show rho _ _ _=_
        simp only[rho]
        rw[if_neg (by omega)];omega
      have hx:=hup _ _ (show cobjs'[sel.length+(i - σ.objs.length)]?=some cobjs'[sel.length+(i - σ.objs.length)] by simp[hjc])
      rw[e] at hx
      rw[ho] at hx
      simp only[Option.some.injEq] at hx
      have hg':cobjs'[sel.length+(i - σ.objs.length)]≠.gone:=by intro h0;apply hg;rw[hx.1,h0];rfl
      exact⟨_,⟨_,by simp[hjc],hg'⟩,e.symm,hx.2 hg'⟩
  have hownnew:∀ j b o c,Live cobjs' j→γ'.blk j=some (b,o,c)→(∃ i∈sel,∃ o cap,Live σ.objs i∧γ.blk i=some (b,o,cap))∨γ.w.heap.size≤b:=by
    intro j b o c hl hb
    rcases hf'.own b ⟨j,o,c,hl,hb⟩ with h1 | h1
    · exact .inl (hownc b h1)
    · exact .inr h1
  have hsim'':Sim ⟨σ.env,objs''⟩ γ'':=by
    refine⟨fun k=>hkeepR _ _ (h.slots k),?_,?_,?_,?_⟩
    · intro i o ho
      by_cases hgo:o=.gone
      · subst hgo;trivial
      rcases hl2 i ⟨o,ho,hgo⟩ with ⟨hi,his,hl,hbk⟩ | ⟨j,⟨x,hx,hgx⟩,rfl,hbk⟩
      · have he:objs''[i]?=σ.objs[i]?:=mergeO_other sel σ.objs new hnl i his hi
        have ho':σ.objs[i]?=some o:=by rw[← he];exact ho
        exact (h.obs i o ho').mono hkeepR hbk (fun b o c hb=>hkeep i his hl b o c hb)
      · have hx2:=(hup j x hx).1
        have e:o=renO ρ x:=by
          have:objs''[ρ j]?=some o:=ho
          rw[hx2] at this;simpa using this.symm
        subst e
        have hob:=hs'.obs j x hx
        have hfl:snap=true→flatO x:=fun hs=>(hflat hs).2 x (List.mem_of_getElem? hx)
        cases x with
        | gone=>trivial
        | var cells =>
          obtain ⟨b,cap,cur,t,h1,h2,h3,h4⟩:=hob
          refine⟨b,cap,cur,t,hbk.trans h1,h2,by simpa using h3,fun c v hv=>?_⟩
          simp only[List.getElem?_map,Option.map_eq_some_iff] at hv
          obtain ⟨y,hy,rfl⟩:=hv
          exact hupR _ _ (h4 c y hy) (fun hs=>hfl hs y (List.mem_of_getElem? hy))
        | mp ag L =>
          obtain ⟨b,f,h1,h2,h3,h4⟩:=hob
          refine⟨b,f,hbk.trans h1,?_,fun p hp=>?_,fun j p hp=>?_⟩
          · rw[mpE_map,List.length_map];exact h2
          · obtain ⟨y,hy,rfl⟩:=List.mem_map.1 hp
            exact h3 y hy
          · simp only[List.getElem?_map,Option.map_eq_some_iff] at hp
            obtain ⟨y,hy,rfl⟩:=hp
            exact hupR _ _ (h4 j y hy) (fun hs=>hfl hs y (List.mem_of_getElem? hy))
        | arr sz rows =>
          obtain ⟨h0,hr,hob⟩:=hob
          refine⟨h0,?_,?_⟩
          · intro row hrow
            simp only[List.mem_map] at hrow
            obtain ⟨y,hy,rfl⟩:=hrow
            simpa using hr y hy
          · rcases hob with ⟨h1,h2⟩ | ⟨b,o,cap,cur,t,h1,h2,h3,h4,h5,h6⟩
            · exact .inl ⟨hbk.trans h1,by simpa using h2⟩
            · refine .inr ⟨b,o,cap,cur,t,hbk.trans h1,h2,h3,by simpa using h4,h5,fun r c v hv=>?_⟩
              simp only[cellAt,List.getElem?_map] at hv
              cases hrr:rows[r]? with
              | none=>simp[hrr] at hv
              | some row =>
                simp only[hrr,Option.map_some,Option.bind_some,List.getElem?_map,Option.map_eq_some_iff] at hv
                obtain ⟨y,hy,rfl⟩:=hv
                exact hupR _ _ (h6 r c y (by simp[cellAt,hrr,hy])) (fun hs=>hfl hs row (List.mem_of_getElem? hrr) y (List.mem_of_getElem? hy))
    · intro i j b o c o' c' hi hj hbi hbj
      rcases hl2 i hi with ⟨hil,his,hli,hbk⟩ | ⟨ji,hji,rfl,hbk⟩<;>rcases hl2 j hj with ⟨hjl,hjs,hlj,hbk'⟩ | ⟨jj,hjj,rfl,hbk'⟩
      · exact h.inj i j b o c o' c' hli hlj (hbk ▸ hbi) (hbk' ▸ hbj)
      · rw[hbk] at hbi
        rw[hbk'] at hbj
        rcases hownnew jj b o' c' hjj hbj with ⟨i',hi',o1,c1,hl',hb'⟩ | hge
        · exact absurd (h.inj i i' b o c o1 c1 hli hl' hbi hb') (fun e=>his (e ▸ hi'))
        · have:=hblt hli hbi;omega
      · rw[hbk] at hbi
        rw[hbk'] at hbj
        rcases hownnew ji b o c hji hbi with ⟨i',hi',o1,c1,hl',hb'⟩ | hge
        · exact absurd (h.inj j i' b o' c' o1 c1 hlj hl' hbj hb') (fun e=>hjs (e ▸ hi'))
        · have:=hblt hlj hbj;omega
      · rw[hbk] at hbi
        rw[hbk'] at hbj
        rw[hs'.inj ji jj b o c o' c' hji hjj hbi hbj]
    · rintro b ⟨i,o,c,hi,hb⟩ ⟨hz,hns⟩
      rcases hl2 i hi with ⟨hil,his,hli,hbk⟩ | ⟨ji,hji,rfl,hbk⟩
      · rw[hbk] at hb
        rcases hf'.z1 b hz with (h1 | h1) | h1 | h1
        · exact h.nz b ⟨i,o,c,hli,hb⟩ h1
        · exact hns h1
        · obtain ⟨i',hi',o1,c1,hl',hb'⟩:=hownc b h1
          exact his ((h.inj i i' b o c o1 c1 hli hl' hb hb') ▸ hi')
        · have:=hblt hli hb
          have h1':γ.w.heap.size≤b:=h1
          omega
      · rw[hbk] at hb
        exact hs'.nz b ⟨ji,o,c,hji,hb⟩ hz
    · rintro b ⟨hz,_⟩
      exact hs'.zlt b hz
  refine⟨cv,ren ρ res,⟨σ.env,objs''⟩,γ'',rfl,rfl,rfl,hsim'',?_,?_,hK,rfl⟩
  · refine⟨hf'.eos,hf'.tape,hf'.output,hf'.size,?_,?_,?_,?_,?_,?_⟩
    · intro b hb hno
      refine hf'.keep b hb (fun ho=>hno ?_)
      obtain ⟨i',_,o1,c1,hl',hb'⟩:=hownc b ho
      exact⟨i',o1,c1,hl',hb'⟩
    · intro b hb
      exact⟨hf'.z0 b (hzc b hb),fun hs=>hSz b hs hb⟩
    · rintro b ⟨hz,hns⟩
      rcases hf'.z1 b hz with (h1 | h1) | h1 | h1
      · exact .inl h1
      · exact absurd h1 hns
      · obtain ⟨i',_,o1,c1,hl',hb'⟩:=hownc b h1
        exact .inr (.inl ⟨i',o1,c1,hl',hb'⟩)
      · exact .inr (.inr h1)
    · rintro b ⟨i,o,c,hi,hb⟩
      rcases hl2 i hi with ⟨hil,his,hli,hbk⟩ | ⟨ji,hji,rfl,hbk⟩
      · rw[hbk] at hb;exact .inl ⟨i,o,c,hli,hb⟩
      · rw[hbk] at hb
        rcases hownnew ji b o c hji hb with ⟨i',_,o1,c1,hl',hb'⟩ | hge
        · exact .inl ⟨i',o1,c1,hl',hb'⟩
        · exact .inr hge
    · show σ.objs.length≤(mergeO σ.objs sel new).length
      rw[mergeO_length sel σ.objs new hnl];omega
    · rintro i hi ⟨o,ho,hg⟩
      refine⟨by show (if i<σ.objs.length then _ else _)=_;rw[if_pos hi],?_⟩
      by_cases his:i∈sel
      · obtain ⟨j,hj,rfl⟩:=exists_sel his
        have hjc:j<cobjs'.length:=by omega
        have hob'':objs''[sel.getD j 0]?=some (renO ρ cobjs'[j]):=by
          show (mergeO σ.objs sel new)[sel.getD j 0]?=_
          rw[mergeO_sel sel σ.objs new hnl hnd hsl j hj]
          simp[new,hjc]
        have ho2:objs''[sel.getD j 0]?=some o:=ho
        rw[hob''] at ho2
        simp only[Option.some.injEq] at ho2
        have hg':cobjs'[j]≠.gone:=by intro h0;apply hg;rw[← ho2,h0];rfl
        obtain ⟨_,x,x',hx,hx',hlk⟩:=hf'.old j (by omega) ⟨cobjs'[j],by simp[hjc],hg'⟩
        have e1:cobjs'[j]=x':=by simpa [hjc] using hx'
        refine⟨renO ρ x,o,hco j x hx,ho,?_⟩
        rw[← ho2,e1]
        cases x<;>cases x'<;>simp_all [Ob.like,renO]
      · have he:objs''[i]?=σ.objs[i]?:=mergeO_other sel σ.objs new hnl i his hi
        have ho':σ.objs[i]?=some o:=by rw[← he];exact ho
        exact⟨o,o,ho',ho,Ob.like_refl hg⟩
  · have:=hs'.slots 0
    rw[htm] at this
    exact hupR res cv (by simpa using this) (fun hs=>(hflat hs).1)
theorem Holds.r {f:FuncId} {args:List AV} {objs:List Ob} {res:AV} {objs':List Ob} (h:Holds P f args objs res objs'):HoldsR P f args objs (fun r os=>r=res∧os=objs') :=
  ⟨h.1,fun γ hsz hs=>(h.2 γ hsz hs).mono fun _ _ ⟨cv,γ',h1,h2,h3,h4,h5⟩=>⟨res,objs',cv,γ',⟨rfl,rfl⟩,h1,h2,h3,h4,h5⟩⟩
theorem callW.r {f:FuncId} {args:List AV} {σ:St} {K:AV→St→Prop} (h:callW P f args σ K):callWR P f args σ K:=by
  obtain ⟨sel,snap,cargs,cobjs,res,cobjs',h1,⟨h2,h3,h4,h5,h6,h7⟩,h8⟩:=h
  exact⟨sel,snap,cargs,cobjs,_,h1.r,⟨h2,h3,h4,h5,h6⟩,fun r os ⟨e1,e2⟩=>by subst e1;subst e2;exact⟨h7,h8⟩⟩
theorem call_sound {σ:St} {γ:Cx} (h:Sim σ γ) {f:FuncId} {args:List AV} {argv:Array Value} (hsz:argv.size=args.length) (harg:∀ (j:Nat) d,args[j]?=some d→RelV σ.objs γ.w γ.Z γ.blk d (argv.getD j Go.undef))
    {K:AV→St→Prop} (hc:callW P f args σ K) :
    Calls P f argv γ.w (fun e w'=>∃ cv v σ' γ',e=.returned cv∧γ'.w=w'∧γ'.tmps=γ.tmps∧Sim σ' γ'∧Fr σ.objs γ σ'.objs γ'∧RelV σ'.objs γ'.w γ'.Z γ'.blk v cv∧K v σ'∧σ'.env=σ.env) :=
  call_soundR h hsz harg hc.r
end Go.Am

