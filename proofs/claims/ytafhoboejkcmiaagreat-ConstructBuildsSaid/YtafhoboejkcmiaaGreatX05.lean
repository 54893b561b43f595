import Derived.Test.YtafhoboejkcmiaaGreatX04
set_option linter.unusedVariables false
set_option linter.unusedSimpArgs false
set_option linter.unnecessarySimpa false
set_option linter.unusedSectionVars false
set_option maxHeartbeats 64000000
set_option maxRecDepth 20000
namespace Go.Am
variable {P:Program}
def callQ (P:Program) (g:FuncId) (args:List AV) (dst:Option Tmp) (K:St→Prop) (σ:St):Prop :=
  ∃ res,Holds P g args [] res []∧noRefL args=true∧noRef res=true∧K (σ.put dst res)
def loadQ (P:Program) (t:TypeId) (dst:Option Tmp) (K:St→Prop) (σ:St):AV→Prop
  | .taddr cells=>(ty P t).kind≠99∧loadA (ty P t) cells 0 fun v=>K (σ.put dst v)
  | _=>False
def opGm (q:Bool) (P:Program) (o:Oper) (σ:St) (K:St→Prop):Prop :=
  match q with
  | false=>opG P o σ K
  | true =>
    match o.op with
    | .call { callee:=.value f,args,.. } =>
      match ev σ f with
      | .fn g caps=>callQ P g (args.toList.map (ev σ)++caps) o.dst K σ
      | _=>False
    | .load t a=>loadQ P t o.dst K σ (ev σ a)
    | _=>False
theorem loadQ_opG {o:Oper} {σ:St} {K:St→Prop} {t:TypeId} {a:Operand} (hop:o.op=.load t a) (h:loadQ P t o.dst K σ (ev σ a)):opG P o σ K:=by
  unfold opG
  simp only[hop]
  unfold opW
  simp only[hop]
  unfold loadQ at h
  split at h
  · rename_i cells he
    simp only[he]
    exact h
  · exact h.elim
theorem loadQ_det {t:TypeId} {dst:Option Tmp} {K:St→Prop} {σ:St} {v:AV} (h:loadQ P t dst K σ v) :∃x,K (σ.put dst x)∧∀ (σ2:St) (K2:St→Prop),K2 (σ2.put dst x)→loadQ P t dst K2 σ2 v:=by
  unfold loadQ at h
  split at h
  · rename_i cells
    obtain ⟨h1,h2⟩:=h
    unfold loadA at h2
    split at h2
    · rename_i ha
      refine⟨_,h2.2,fun σ2 K2 hK=>?_⟩
      unfold loadQ loadA
      simp only
      rw[if_pos ha]
      exact⟨h1,h2.1,hK⟩
    · rename_i ha
      split at h2
      · rename_i x hx
        refine⟨x,h2,fun σ2 K2 hK=>?_⟩
        unfold loadQ loadA
        simp only
        rw[if_neg ha,hx]
        exact⟨h1,hK⟩
      · exact h2.elim
  · exact h.elim
def guardM (q:Bool) (P:Program) (o:Oper) (K:St→Prop) (b want:Bool) (σ:St):Prop:=(b=want→opGm q P o σ K)∧(b≠want→K (σ.put o.dst (.lit (.tuple #[]))))
def stepD (P:Program) (ops:Array Oper) (q:Bool) (o:Oper) (K:St→Prop) (σ:St):Prop :=
  match o.guard with
  | none=>opGm q P o σ K
  | some (j,want) =>
    match (ops[j]?).bind (·.dst) with
    | none=>False
    | some d =>
      match σ.env d with
      | .lit (.bool b)=>guardM q P o K b want σ
      | .lit (.tuple vs)=>vs = #[]∧K (σ.put o.dst (.lit (.tuple #[])))
      | _=>False
theorem opGm_opG {q:Bool} {o:Oper} {σ:St} {K:St→Prop} (h:opGm q P o σ K):opG P o σ K:=by
  cases q with
  | false=>exact h
  | true =>
    unfold opGm at h
    simp only at h
    unfold opG
    split at h
    · rename_i f args ats hop
      simp only[hop]
      split at h
      · rename_i g caps he
        simp only[he]
        obtain ⟨res,h1,h2,h3,h4⟩:=h
        exact callK_pure h1 h2 h3 h4
      · exact h.elim
    · rename_i t a hop
      have:=loadQ_opG hop h
      unfold opG at this
      simpa only[hop] using this
    · exact h.elim
theorem stepD_sound {N:Nat} {os:List Ob} {γ0:Cx} {ops:Array Oper} (hd:∀ o∈ops.toList,∀ d,o.dst=some d→d<N) {q:Bool} {i:Nat} {o:Oper} (hi:ops[i]?=some o) {σ:St} {K:St→Prop}
    (h:stepD P ops q o K σ) {a:Act} {w:World} (hok:Okay N os γ0 σ a w) {Q:Exit→Act→World→Prop} {next:Act→World→Prop} (hn:∀ σ' a' w',K σ'→Okay N os γ0 σ' a' w'→next a' w'):wpOp P ops Q i next a w:=by
  have hmem:o∈ops.toList:=List.mem_of_getElem? (by simpa using hi)
  unfold wpOp
  simp only[hi]
  unfold stepD at h
  cases hg:o.guard with
  | none =>
    simp only[hg] at h
    have hw:Region.wanted o (yielded ops a.tmps)=true:=by simp[Region.wanted,hg]
    rw[if_pos hw]
    left
    exact opG_sound (opGm_opG h) hok (hd o hmem) hn
  | some jw =>
    obtain ⟨j,want⟩:=jw
    simp only[hg] at h
    cases hdj:(ops[j]?).bind (·.dst) with
    | none=>simp[hdj] at h
    | some d =>
      simp only[hdj] at h
      split at h
      · rename_i b he
        obtain ⟨hdf,hsz,γ,rfl,ha,hs,hf⟩:=hok
        have hslot:=hs.slots d
        rw[he,ha] at hslot
        have hv:=hslot.lit_inv
        have hy:yielded ops a.tmps j=some b:=by
          unfold yielded
          rw[hdj]
          have:a.tmps[d]?=some (.bool b):=by
            rw[Array.getD_eq_getD_getElem?] at hv
            cases hx:a.tmps[d]? with
            | none=>rw[hx] at hv;simp[Go.undef] at hv
            | some y=>rw[hx] at hv;simp at hv;rw[hv]
          simp[this]
        by_cases hbw:b=want
        · have hw:Region.wanted o (yielded ops a.tmps)=true:=by simp[Region.wanted,hg,hy,hbw]
          rw[if_pos hw]
          left
          exact opG_sound (opGm_opG (h.1 hbw)) ⟨hdf,hsz,γ,rfl,ha,hs,hf⟩ (hd o hmem) hn
        · have hw:Region.wanted o (yielded ops a.tmps)=false:=by simp[Region.wanted,hg,hy,hbw]
          rw[if_neg (by rw[hw];simp)]
          refine hn _ _ _ (h.2 hbw) ⟨by rw[put_defers];exact hdf,by rw[put_size];exact hsz,{ γ with tmps:=(a.put o.dst Go.undef).tmps },rfl,rfl,put_sim hs ha (fun d h=>by rw[hsz];exact hd o hmem d h) (.lit _),?_⟩
          rw[objs_put];exact hf.put _
      · rename_i vs he
        obtain ⟨hdf,hsz,γ,rfl,ha,hs,hf⟩:=hok
        have hslot:=hs.slots d
        rw[he,ha] at hslot
        have hv:=hslot.lit_inv
        have hy:yielded ops a.tmps j=none:=by
          unfold yielded
          rw[hdj]
          rw[Array.getD_eq_getD_getElem?] at hv
          cases hx:a.tmps[d]? with
          | none=>simp[hx]
          | some y=>rw[hx] at hv;simp at hv;subst hv;simp[hx]
        have hw:Region.wanted o (yielded ops a.tmps)=false:=by simp[Region.wanted,hg,hy]
        rw[if_neg (by rw[hw];simp)]
        refine hn _ _ _ h.2 ⟨by rw[put_defers];exact hdf,by rw[put_size];exact hsz,{ γ with tmps:=(a.put o.dst Go.undef).tmps },rfl,rfl,put_sim hs ha (fun d h=>by rw[hsz];exact hd o hmem d h) (.lit _),?_⟩
        rw[objs_put];exact hf.put _
      · exact h.elim
theorem eff_refl (c:Nat) (a:List Ob):Eff c a a:=by
  unfold Eff
  split
  · rfl
  · split
    · intro id _;rfl
    · split
      · exact⟨rfl,fun id o o' h h'=>by rw[h] at h';simp at h';subst h';exact sameK_refl o⟩
      · trivial
theorem Frz.objs {σ σ2:St} (h:σ2.objs=σ.objs) {kp:Nat→Prop} {c d:AV} (ha:Frz σ kp c d):Frz σ2 kp c d:=by
  induction ha with
  | lit x=>exact .lit x
  | tree s r=>exact .tree s r
  | nil sz=>exact .nil sz
  | ref id sz off len rows rows' g hob hsel hl0 hw0 hg1 hg2 ih=>exact .ref id sz off len rows rows' g (by rw[h];exact hob) hsel hl0 hw0 hg1 ih
theorem ArgR.objs {σ σ2:St} (h:σ2.objs=σ.objs) {kp:Nat→Prop} {ρ:Nat→Nat} {snap:Bool} {c d:AV} (ha:ArgR σ kp ρ snap c d):ArgR σ2 kp ρ snap c d:=by
  induction ha with
  | same v=>exact .same v
  | snap c d hs hf=>exact .snap c d hs (hf.objs h)
  | agg cs ds hl _ ih=>exact .agg cs ds hl ih
  | tup cs ds hl _ ih=>exact .tup cs ds hl ih
def clsQ (q:Bool) (o:Oper):Nat:=if q then 0 else cls o.op
theorem ev_looks {ops:Array Oper} {o:Oper} {σ:St} {e2:Nat→AV} {os:List Ob} (h:∀ t∈o.looksAt ops,e2 t=σ.env t):∀ x∈o.op.operands.toList,ev ⟨e2,os⟩ x=ev σ x:=by
  intro x hx
  cases x with
  | tmp t =>
    show e2 t=σ.env t
    refine h t ?_
    unfold Oper.looksAt
    rw[List.mem_append]
    left
    rw[List.mem_filterMap]
    exact⟨_,hx,rfl⟩
  | const v=>rfl
  | func f=>rfl
  | global g=>rfl
theorem recvK_det {σ:St} {v:AV} {K:FuncId→AV→Prop} {r:Option (FuncId × Option TypeId)} (h:recvK P σ v K r) :
    ∃ g x,K g x∧∀ (e2:Nat→AV) (K2:FuncId→AV→Prop),K2 g x→recvK P ⟨e2,σ.objs⟩ v K2 r:=by
  match r,h with
  | none,h=>exact h.elim
  | some (g,none),h=>exact⟨g,v,h,fun _ _ h=>h⟩
  | some (g,some e),h =>
    unfold recvK at h
    obtain ⟨hk,h⟩:=h
    cases v with
    | ptr id rr c =>
      simp only at h
      cases hrow:rowOf σ id rr with
      | none=>simp[hrow] at h
      | some row =>
        simp only[hrow] at h
        obtain ⟨x,h1,h2⟩:=loadA_det h
        refine⟨g,x,h1,fun e2 K2 hK=>?_⟩
        unfold recvK
        have:rowOf ⟨e2,σ.objs⟩ id rr=some row:=hrow
        simp only[this]
        exact⟨hk,h2 _ hK⟩
    | _=>exact h.elim
theorem opG_local {o:Oper} {σ:St} {K:St→Prop} (hW:opG P o σ K) :
    ∃ v os,Eff (cls o.op) σ.objs os∧K ((⟨σ.env,os⟩:St).put o.dst v)∧∀ (e2:Nat→AV) (K2:St→Prop),(∀ x∈o.op.operands.toList,ev ⟨e2,σ.objs⟩ x=ev σ x)→K2 ((⟨e2,os⟩:St).put o.dst v)→opG P o ⟨e2,σ.objs⟩ K2:=by
  unfold opG at hW ⊢
  split at hW
  · rename_i f args ats hop
    simp only[hop]
    split at hW
    · rename_i g caps he
      obtain ⟨sel,snap,cargs,cobjs,res,cobjs',h1,⟨h2,h3,h4,h5,h6,h7⟩,h8⟩:=hW
      refine⟨_,_,(by simp[Eff,cls]),h8,fun e2 K2 hx hK=>?_⟩
      have e1:ev ⟨e2,σ.objs⟩ f=.fn g caps:=by rw[← he];exact hx f (by simp[Op.operands,Call.operands])
      have e3:args.toList.map (ev ⟨e2,σ.objs⟩)=args.toList.map (ev σ):=List.map_congr_left fun y hy=>hx y (by simp only[Op.operands,Call.operands,Array.toList_append,List.mem_append];exact .inr hy)
      simp only[e1,e3]
      exact⟨sel,snap,cargs,cobjs,res,cobjs',h1,⟨h2,h3,h4,h5,fun j c d hc hd=>ArgR.objs (σ:=σ) (σ2:=⟨e2,σ.objs⟩) rfl (h6 j c d hc hd),h7⟩,hK⟩
    · exact hW.elim
  · rename_i r m args ats hop
    simp only[hop]
    split at hW
    · rename_i t v he
      obtain ⟨g,x,⟨sel,snap,cargs,cobjs,res,cobjs',h1,⟨h2,h3,h4,h5,h6,h7⟩,h8⟩,hdet⟩:=recvK_det hW
      refine⟨_,_,(by simp[Eff,cls]),h8,fun e2 K2 hx hK=>?_⟩
      have e1:ev ⟨e2,σ.objs⟩ r=.ifc t v:=by rw[← he];exact hx r (by simp[Op.operands,Call.operands])
      have e3:args.toList.map (ev ⟨e2,σ.objs⟩)=args.toList.map (ev σ):=List.map_congr_left fun y hy=>hx y (by simp only[Op.operands,Call.operands,Array.toList_append,List.mem_append];exact .inr hy)
      simp only[e1,e3]
      exact hdet e2 _ ⟨sel,snap,cargs,cobjs,res,cobjs',h1,⟨h2,h3,h4,h5,fun j c d hc hd=>ArgR.objs (σ:=σ) (σ2:=⟨e2,σ.objs⟩) rfl (h6 j c d hc hd),h7⟩,hK⟩
    · exact hW.elim
  · rename_i hne
    obtain ⟨v,os,h1,h2,h3⟩:=opW_local hW
    refine⟨v,os,h1,h2,fun e2 K2 hx hK=>?_⟩
    have:=h3 e2 K2 hx hK
    exact this
theorem opG_value {o:Oper} {σ:St} {K:St→Prop} (hc:cls o.op≤2) (hW:opG P o σ K) :
    ∃ v,K (σ.put o.dst v)∧∀ (σ2:St) (K2:St→Prop),(∀ x∈o.op.operands.toList,ev σ2 x=ev σ x)→(∀ (id:Nat),ObjC (cls o.op) σ.objs[id]? σ2.objs[id]?)→K2 (σ2.put o.dst v)→opG P o σ2 K2:=by
  unfold opG at hW ⊢
  split at hW
  · rename_i f args ats hop
    rw[hop] at hc
    simp[cls] at hc
  · rename_i r m args ats hop
    rw[hop] at hc
    simp[cls] at hc
  · rename_i hne
    obtain ⟨v,h2,h3⟩:=opW_value hc hW
    refine⟨v,h2,fun σ2 K2 hx ho hK=>?_⟩
    exact h3 σ2 K2 hx (fun x _ id _=>ho id) hK
theorem opGm_local {q:Bool} {o:Oper} {σ:St} {K:St→Prop} (hW:opGm q P o σ K) :
    ∃ v os,Eff (clsQ q o) σ.objs os∧K ((⟨σ.env,os⟩:St).put o.dst v)∧∀ (e2:Nat→AV) (K2:St→Prop),(∀ x∈o.op.operands.toList,ev ⟨e2,σ.objs⟩ x=ev σ x)→K2 ((⟨e2,os⟩:St).put o.dst v)→opGm q P o ⟨e2,σ.objs⟩ K2:=by
  cases q with
  | false=>exact opG_local hW
  | true =>
    unfold opGm at hW ⊢
    simp only at hW ⊢
    split at hW
    · rename_i f args ats hop
      simp only[hop]
      split at hW
      · rename_i g caps he
        obtain ⟨res,h1,h2,h3,h4⟩:=hW
        refine⟨res,σ.objs,eff_refl _ _,h4,fun e2 K2 hx hK=>?_⟩
        have e1:ev ⟨e2,σ.objs⟩ f=.fn g caps:=by rw[← he];exact hx f (by simp[Op.operands,Call.operands])
        have e3:args.toList.map (ev ⟨e2,σ.objs⟩)=args.toList.map (ev σ):=List.map_congr_left fun y hy=>hx y (by simp only[Op.operands,Call.operands,Array.toList_append,List.mem_append];exact .inr hy)
        simp only[e1,e3]
        exact⟨res,h1,h2,h3,hK⟩
      · exact hW.elim
    · rename_i t a hop
      obtain ⟨x,h1,h2⟩:=loadQ_det hW
      refine⟨x,σ.objs,eff_refl _ _,h1,fun e2 K2 hx hK=>?_⟩
      rw[hx a (by simp[hop,Op.operands])]
      exact h2 _ K2 hK
    · exact hW.elim
theorem opGm_value {q:Bool} {o:Oper} {σ:St} {K:St→Prop} (hc:clsQ q o≤2) (hW:opGm q P o σ K) :
    ∃ v,K (σ.put o.dst v)∧∀ (σ2:St) (K2:St→Prop),(∀ x∈o.op.operands.toList,ev σ2 x=ev σ x)→(∀ (id:Nat),ObjC (clsQ q o) σ.objs[id]? σ2.objs[id]?)→K2 (σ2.put o.dst v)→opGm q P o σ2 K2:=by
  cases q with
  | false=>exact opG_value hc hW
  | true =>
    unfold opGm at hW ⊢
    simp only at hW ⊢
    split at hW
    · rename_i f args ats hop
      simp only[hop]
      split at hW
      · rename_i g caps he
        obtain ⟨res,h1,h2,h3,h4⟩:=hW
        refine⟨res,h4,fun σ2 K2 hx _ hK=>?_⟩
        have e1:ev σ2 f=.fn g caps:=by rw[← he];exact hx f (by simp[Op.operands,Call.operands])
        have e3:args.toList.map (ev σ2)=args.toList.map (ev σ):=List.map_congr_left fun y hy=>hx y (by simp only[Op.operands,Call.operands,Array.toList_append,List.mem_append];exact .inr hy)
        simp only[e1,e3]
        exact⟨res,h1,h2,h3,hK⟩
      · exact hW.elim
    · rename_i t a hop
      obtain ⟨x,h1,h2⟩:=loadQ_det hW
      refine⟨x,h1,fun σ2 K2 hx _ hK=>?_⟩
      rw[hx a (by simp[hop,Op.operands])]
      exact h2 _ K2 hK
    · exact hW.elim
theorem guard_looks {ops:Array Oper} {o:Oper} {j d:Nat} {want:Bool} (hg:o.guard=some (j,want)) (hd:(ops[j]?).bind (·.dst)=some d):d∈o.looksAt ops:=by
  unfold Oper.looksAt
  rw[List.mem_append]
  right
  simp[hg,hd]
theorem stepD_local {ops:Array Oper} {q:Bool} {o:Oper} {σ:St} {K:St→Prop} (hW:stepD P ops q o K σ) :
    ∃ v os,Eff (clsQ q o) σ.objs os∧K ((⟨σ.env,os⟩:St).put o.dst v)∧∀ (e2:Nat→AV) (K2:St→Prop),(∀ t∈o.looksAt ops,e2 t=σ.env t)→K2 ((⟨e2,os⟩:St).put o.dst v)→stepD P ops q o K2 ⟨e2,σ.objs⟩:=by
  unfold stepD at hW ⊢
  cases hg:o.guard with
  | none =>
    simp only[hg] at hW
    obtain ⟨v,os,h1,h2,h3⟩:=opGm_local hW
    exact⟨v,os,h1,h2,fun e2 K2 hl hK=>h3 e2 K2 (ev_looks hl) hK⟩
  | some jw =>
    obtain ⟨j,want⟩:=jw
    simp only[hg] at hW
    cases hdj:(ops[j]?).bind (·.dst) with
    | none=>simp[hdj] at hW
    | some d =>
      simp only[hdj] at hW
      split at hW
      · rename_i b he
        by_cases hbw:b=want
        · obtain ⟨v,os,h1,h2,h3⟩:=opGm_local (hW.1 hbw)
          refine⟨v,os,h1,h2,fun e2 K2 hl hK=>?_⟩
          have:e2 d=.lit (.bool b):=by rw[hl d (guard_looks hg hdj)];exact he
          simp only[hdj,this]
          exact⟨fun _=>h3 e2 K2 (ev_looks hl) hK,fun hn=>absurd hbw hn⟩
        · refine⟨.lit (.tuple #[]),σ.objs,eff_refl _ _,hW.2 hbw,fun e2 K2 hl hK=>?_⟩
          have:e2 d=.lit (.bool b):=by rw[hl d (guard_looks hg hdj)];exact he
          simp only[hdj,this]
          exact⟨fun hn=>absurd hn hbw,fun _=>hK⟩
      · rename_i vs he
        refine⟨.lit (.tuple #[]),σ.objs,eff_refl _ _,hW.2,fun e2 K2 hl hK=>?_⟩
        have:e2 d=.lit (.tuple vs):=by rw[hl d (guard_looks hg hdj)];exact he
        simp only[hdj,this]
        exact⟨hW.1,hK⟩
      · exact hW.elim
theorem stepD_value {ops:Array Oper} {q:Bool} {o:Oper} {σ:St} {K:St→Prop} (hc:clsQ q o≤2) (hW:stepD P ops q o K σ) :
    ∃ v,K (σ.put o.dst v)∧∀ (σ2:St) (K2:St→Prop),(∀ t∈o.looksAt ops,σ2.env t=σ.env t)→(∀ (id:Nat),ObjC (clsQ q o) σ.objs[id]? σ2.objs[id]?)→K2 (σ2.put o.dst v)→stepD P ops q o K2 σ2:=by
  unfold stepD at hW ⊢
  cases hg:o.guard with
  | none =>
    simp only[hg] at hW
    obtain ⟨v,h2,h3⟩:=opGm_value hc hW
    exact⟨v,h2,fun σ2 K2 hl ho hK=>h3 σ2 K2 (ev_looks (e2:=σ2.env) (os:=σ2.objs) hl) ho hK⟩
  | some jw =>
    obtain ⟨j,want⟩:=jw
    simp only[hg] at hW
    cases hdj:(ops[j]?).bind (·.dst) with
    | none=>simp[hdj] at hW
    | some d =>
      simp only[hdj] at hW
      split at hW
      · rename_i b he
        by_cases hbw:b=want
        · obtain ⟨v,h2,h3⟩:=opGm_value hc (hW.1 hbw)
          refine⟨v,h2,fun σ2 K2 hl ho hK=>?_⟩
          have:σ2.env d=.lit (.bool b):=by rw[hl d (guard_looks hg hdj)];exact he
          simp only[hdj,this]
          exact⟨fun _=>h3 σ2 K2 (ev_looks (e2:=σ2.env) (os:=σ2.objs) hl) ho hK,fun hn=>absurd hbw hn⟩
        · refine⟨.lit (.tuple #[]),hW.2 hbw,fun σ2 K2 hl ho hK=>?_⟩
          have:σ2.env d=.lit (.bool b):=by rw[hl d (guard_looks hg hdj)];exact he
          simp only[hdj,this]
          exact⟨fun hn=>absurd hn hbw,fun _=>hK⟩
      · rename_i vs he
        refine⟨.lit (.tuple #[]),hW.2,fun σ2 K2 hl ho hK=>?_⟩
        have:σ2.env d=.lit (.tuple vs):=by rw[hl d (guard_looks hg hdj)];exact he
        simp only[hdj,this]
        exact⟨hW.1,hK⟩
      · exact hW.elim
theorem put_env_ne {σ:St} {dst:Option Tmp} {v:AV} {t:Nat} (h:∀ d,dst=some d→d≠t):(σ.put dst v).env t=σ.env t:=by
  cases dst with
  | none=>rfl
  | some d =>
    have:=h d rfl
    simp[St.put,upd,Ne.symm this]
theorem put_comm' {σ:St} {x y:Option Tmp} {v u:AV} (h:∀ d,x=some d→y≠some d):(σ.put x v).put y u=(σ.put y u).put x v:=by
  cases x with
  | none=>rfl
  | some d =>
    cases y with
    | none=>rfl
    | some d' =>
      have hne:d'≠d:=fun e=>h d rfl (by rw[e])
      simp only[St.put]
      congr 1
      funext k
      simp only[upd]
      split<;>split<;>simp_all
theorem put_objs {σ:St} {x:Option Tmp} {v:AV}:(σ.put x v).objs=σ.objs:=by cases x<;>rfl
theorem put_eta {σ:St} {x:Option Tmp} {v:AV}:σ.put x v=⟨(σ.put x v).env,σ.objs⟩:=by cases x<;>rfl
theorem put_over {σ:St} {os:List Ob} {x:Option Tmp} {v:AV}:(⟨(σ.put x v).env,os⟩:St)=(⟨σ.env,os⟩:St).put x v:=by cases x<;>rfl
def compat (ci ck:Nat):Bool:=ci == 0 || ck == 0 || (ci == 1 && decide (ck≤4)) || (ci == 2 && decide (ck≤3))
theorem eff_objC {ci ck:Nat} (h:(ci == 0 || (ci == 1 && decide (ck≤4)) || (ci == 2 && decide (ck≤3)))=true) {a b:List Ob} (he:Eff ck a b) (id:Nat):ObjC ci a[id]? b[id]?:=by
  simp only[Bool.or_eq_true,Bool.and_eq_true,beq_iff_eq,decide_eq_true_eq] at h
  rcases h with (rfl | ⟨rfl,hk⟩) | ⟨rfl,hk⟩
  · simp[ObjC]
  · unfold Eff at he
    have:∀ o,a[id]?=some o→∃ o',b[id]?=some o'∧sameK o o':=by
      intro o ho
      have hlt:=(List.getElem?_eq_some_iff.1 ho).1
      split at he
      · subst he;exact⟨o,ho,sameK_refl o⟩
      · split at he
        · exact⟨o,by rw[he id hlt];exact ho,sameK_refl o⟩
        · split at he
          · have hb:id<b.length:=by omega
            exact⟨b[id],by simp[hb],he.2 id o _ ho (by simp[hb])⟩
          · omega
    simpa [ObjC] using this
  · unfold Eff at he
    have:∀ o,a[id]?=some o→b[id]?=some o:=by
      intro o ho
      have hlt:=(List.getElem?_eq_some_iff.1 ho).1
      split at he
      · subst he;exact ho
      · split at he
        · rw[he id hlt];exact ho
        · omega
    simpa [ObjC] using this
theorem swap_value {ops:Array Oper} {qi qk:Bool} {oi ok:Oper} (ha:oi.apart ops ok=true) (hi:clsQ qi oi≤2)
    (hc:(clsQ qi oi == 0 || (clsQ qi oi == 1 && decide (clsQ qk ok≤4)) || (clsQ qi oi == 2 && decide (clsQ qk ok≤3)))=true) {σ:St} {K:St→Prop}
    (h:stepD P ops qi oi (stepD P ops qk ok K) σ):stepD P ops qk ok (stepD P ops qi oi K) σ:=by
  obtain ⟨a1,a2,a3⟩:=Oper.apart_spec ha
  obtain ⟨v,h1,run⟩:=stepD_value hi h
  obtain ⟨vk,os,heff,h2,run2⟩:=stepD_local h1
  rw[put_objs] at heff run2
  refine run2 σ.env _ (fun t ht=>(put_env_ne fun d hd e=>a1 d hd (e ▸ ht)).symm) ?_
  refine run _ _ (fun t ht=>?_) (fun id=>?_) ?_
  · rw[put_env_ne fun d hd e=>a3 d hd (e ▸ ht)]
  · rw[put_objs];exact eff_objC hc heff id
  · rw[put_over] at h2
    rw[put_comm' (fun d hd e=>a2 d e hd)]
    exact h2
theorem swap_quiet {ops:Array Oper} {qi qk:Bool} {oi ok:Oper} (ha:oi.apart ops ok=true) (hk:clsQ qk ok=0) {σ:St} {K:St→Prop}
    (h:stepD P ops qi oi (stepD P ops qk ok K) σ):stepD P ops qk ok (stepD P ops qi oi K) σ:=by
  obtain ⟨a1,a2,a3⟩:=Oper.apart_spec ha
  obtain ⟨vi,os,heff,h1,run⟩:=stepD_local h
  obtain ⟨vk,h2,runk⟩:=stepD_value (by omega) h1
  refine runk σ _ (fun t ht=>(put_env_ne (σ:=⟨σ.env,os⟩) fun d hd e=>a1 d hd (e ▸ ht)).symm) (fun id=>by rw[hk];simp[ObjC]) ?_
  rw[put_eta]
  refine run _ _ (fun t ht=>put_env_ne fun d hd e=>a3 d hd (e ▸ ht)) ?_
  rw[put_over,put_comm' (fun d hd e=>a2 d e hd)]
  exact h2
theorem swap_steps {ops:Array Oper} {qi qk:Bool} {oi ok:Oper} (ha:oi.apart ops ok=true) (hc:compat (clsQ qi oi) (clsQ qk ok)=true) {σ:St} {K:St→Prop}
    (h:stepD P ops qi oi (stepD P ops qk ok K) σ):stepD P ops qk ok (stepD P ops qi oi K) σ:=by
  by_cases hk:clsQ qk ok=0
  · exact swap_quiet ha hk h
  · have hc':(clsQ qi oi == 0 || (clsQ qi oi == 1 && decide (clsQ qk ok≤4)) || (clsQ qi oi == 2 && decide (clsQ qk ok≤3)))=true:=by
      simp only[compat,Bool.or_eq_true,Bool.and_eq_true,beq_iff_eq,decide_eq_true_eq] at hc ⊢
      rcases hc with ((h | h) | h) | h
      · exact .inl (.inl h)
      · exact absurd h hk
      · exact .inl (.inr h)
      · exact .inr h
    refine swap_value ha ?_ hc' h
    simp only[Bool.or_eq_true,Bool.and_eq_true,beq_iff_eq,decide_eq_true_eq] at hc'
    omega
end Go.Am
namespace Go.Am
variable {P:Program} {N n0:Nat} {σ:St}
def stepAt (P:Program) (ops:Array Oper) (qs:List Nat) (i:Nat) (K:St→Prop) (σ:St):Prop :=
  match ops[i]? with
  | none=>K σ
  | some o=>stepD P ops (qs.contains i) o K σ
def anyW (P:Program) (ops:Array Oper) (qs:List Nat) (K:St→Prop):Nat→Array Bool→St→Prop
  | 0,listed,σ=>Region.ready .any ops listed=[]∧K σ
  | n+1,listed,σ=>(Region.ready .any ops listed=[]→K σ)∧∀ i∈Region.ready .any ops listed,stepAt P ops qs i (anyW P ops qs K n (listed.setIfInBounds i true)) σ
theorem stepD_mono {ops:Array Oper} {q:Bool} {o:Oper} {σ:St} {K K2:St→Prop} (hk:∀ s,K s→K2 s) (h:stepD P ops q o K σ):stepD P ops q o K2 σ:=by
  obtain ⟨v,os,_,h2,run⟩:=stepD_local h
  exact run σ.env K2 (fun _ _=>rfl) (hk _ h2)
theorem stepD_some {ops:Array Oper} {q:Bool} {o:Oper} {σ:St} {K:St→Prop} (h:stepD P ops q o K σ) :∃s,K s:=by
  obtain ⟨v,os,_,h2,run⟩:=stepD_local h
  exact⟨_,h2⟩
theorem stepAt_mono {ops:Array Oper} {qs:List Nat} {i:Nat} {σ:St} {K K2:St→Prop} (hk:∀ s,K s→K2 s) (h:stepAt P ops qs i K σ):stepAt P ops qs i K2 σ:=by
  unfold stepAt at h ⊢
  split at h
  · exact hk _ h
  · exact stepD_mono hk h
theorem stepAt_some {ops:Array Oper} {qs:List Nat} {i:Nat} {σ:St} {K:St→Prop} (h:stepAt P ops qs i K σ) :∃s,K s:=by
  unfold stepAt at h
  split at h
  · exact⟨_,h⟩
  · exact stepD_some h
theorem anyW_sound {os:List Ob} {γ0:Cx} {ops:Array Oper} {qs:List Nat} (hd:∀ o∈ops.toList,∀ d,o.dst=some d→d<N) {K:St→Prop} {Q:Exit→Act→World→Prop}
    (hQ:∀ σ' a' w',K σ'→Okay N os γ0 σ' a' w'→Q .normal a' w'):∀ (n:Nat) (listed:Array Bool) (σ:St) (a:Act) (w:World),anyW P ops qs K n listed σ→Okay N os γ0 σ a w→wpAny P .any ops Q n listed a w
  | 0,listed,σ,a,w,h,hok=>⟨h.1,hQ _ _ _ h.2 hok⟩
  | n+1,listed,σ,a,w,h,hok=>by
    refine⟨fun hr=>hQ _ _ _ (h.1 hr) hok,fun i hi=>?_⟩
    have:=h.2 i hi
    unfold stepAt at this
    split at this
    · rename_i hi'
      unfold wpOp
      simp only[hi']
      exact anyW_sound hd hQ n _ _ _ _ this hok
    · rename_i o hi'
      exact stepD_sound hd hi' this hok fun σ' a' w' hK hok'=>anyW_sound hd hQ n _ _ _ _ hK hok'
theorem W_region_any {id:Nat} {ops:Array Oper} {Q:Exit→St→Prop} (qs:List Nat) (hm:P.follows .mixedOrders=true) (hd:dstOK N ops=true)
    (h:anyW P ops qs (Q .normal) ops.size (Array.replicate ops.size false) σ):W P N n0 (.region id ops true) Q σ:=by
  intro os γ0 a w _ hok
  refine wp_region_any hm ?_
  exact anyW_sound (dstOK_spec hd) (K:=Q .normal) (fun σ' a' w' hK hok'=>⟨σ',hK,hok'⟩) _ _ _ _ _ h hok.drawn
theorem any_take {ops:Array Oper} {qs:List Nat} {K:St→Prop} {i:Nat} {o:Oper} (hi:ops[i]?=some o) (D:List Nat) (hiD:i∈D)
    (hD:∀ j∈D,j=i∨∃ oj,ops[j]?=some oj∧∃ e∈oj.after,Region.binds .any e=true∧e.on∈D):∀ (fuel:Nat) (listed:Array Bool) (σ:St),(∀ j∈D,listed.getD j true=false) →
      i∈Region.ready .any ops listed →
      (∀ j oj,ops[j]?=some oj→listed.getD j true=false→j ∉ D→o.apart ops oj=true∧compat (clsQ (qs.contains i) o) (clsQ (qs.contains j) oj)=true) →
      stepAt P ops qs i (anyW P ops qs K fuel (listed.setIfInBounds i true)) σ→anyW P ops qs K (fuel+1) listed σ:=by
  intro fuel
  induction fuel with
  | zero =>
    intro listed σ hu hr hap h
    refine⟨fun e=>by rw[e] at hr;simp at hr,fun k hk=>?_⟩
    by_cases hki:k=i
    · subst hki;exact h
    · obtain ⟨s,hs⟩:=stepAt_some h
      have:=ready_mono hk hki
      rw[hs.1] at this
      simp at this
  | succ m ih =>
    intro listed σ hu hr hap h
    refine⟨fun e=>by rw[e] at hr;simp at hr,fun k hk=>?_⟩
    by_cases hki:k=i
    · subst hki;exact h
    · have hkr:=mem_ready.1 hk
      obtain ⟨hkl,ok,hok,hke⟩:=hkr
      have hkD:k ∉ D:=by
        intro hkD
        rcases hD k hkD with e | ⟨oj,hoj,e,he,hb,hon⟩
        · exact hki e
        · rw[hok] at hoj
          simp only[Option.some.injEq] at hoj
          subst hoj
          have h1:=hke e he hb
          have h2:=hu e.on hon
          rw[Array.getD_eq_getD_getElem?] at h1 h2
          cases hx:listed[e.on]? with
          | none=>rw[hx] at h1;simp at h1
          | some b=>rw[hx] at h1 h2;simp at h1 h2;rw[h1] at h2;simp at h2
      obtain ⟨ha,hc⟩:=hap k ok hok hkl hkD
      have h1:stepAt P ops qs i (stepAt P ops qs k (anyW P ops qs K m ((listed.setIfInBounds i true).setIfInBounds k true))) σ :=
        stepAt_mono (fun s hs=>hs.2 k (ready_mono hk hki)) h
      have h2:stepAt P ops qs k (stepAt P ops qs i (anyW P ops qs K m ((listed.setIfInBounds i true).setIfInBounds k true))) σ:=by
        unfold stepAt at h1 ⊢
        simp only[hi,hok] at h1 ⊢
        exact swap_steps ha hc h1
      refine stepAt_mono (fun s hs=>?_) h2
      refine ih (listed.setIfInBounds k true) s (fun j hj=>?_) (ready_mono hr (Ne.symm hki)) (fun j oj hoj hl hjD=>?_) ?_
      · have hne:k≠j:=fun e=>hkD (by rw[e];exact hj)
        rw[getD_set_ne _ hne];exact hu j hj
      · refine hap j oj hoj ?_ hjD
        by_cases hjk:k=j
        · subst hjk;exact hkl
        · rwa [getD_set_ne _ hjk] at hl
      · rw[Array.setIfInBounds_comm _ _ (Ne.symm hki)] at hs
        exact hs
def depsOf (ops:Array Oper) (i:Nat):List Nat :=
  (List.range ops.size).foldl (fun D j=>if j == i || (match ops[j]? with | some oj=>oj.after.any (fun e=>Region.binds .any e && D.contains e.on) | none=>false) then D++[j] else D) []
def takeOK (ops:Array Oper) (qs:List Nat) (listed:Array Bool) (i:Nat) (D:List Nat):Bool :=
  match ops[i]? with
  | none=>false
  | some o =>
    D.contains i && D.all (fun j=>j == i || match ops[j]? with | some oj=>oj.after.any (fun e=>Region.binds .any e && D.contains e.on) | none=>false) &&
    D.all (fun j=>!listed.getD j true) && o.after.all (fun e=>!Region.binds .any e || listed.getD e.on false) &&
    (List.range ops.size).all fun j=>D.contains j || listed.getD j true || match ops[j]? with | some oj=>o.apart ops oj && compat (clsQ (qs.contains i) o) (clsQ (qs.contains j) oj) | none=>true
theorem take_ok {ops:Array Oper} {qs:List Nat} {K:St→Prop} {i:Nat} {D:List Nat} {fuel:Nat} {listed:Array Bool} (h:takeOK ops qs listed i D=true)
    (hs:stepAt P ops qs i (anyW P ops qs K fuel (listed.setIfInBounds i true)) σ):anyW P ops qs K (fuel+1) listed σ:=by
  unfold takeOK at h
  cases hi:ops[i]? with
  | none=>simp[hi] at h
  | some o =>
    simp only[hi,Bool.and_eq_true,List.all_eq_true,List.contains_iff_mem,Bool.or_eq_true,beq_iff_eq,Bool.not_eq_true'] at h
    obtain ⟨⟨⟨⟨h1,h2⟩,h3⟩,h4⟩,h5⟩:=h
    refine any_take hi D h1 (fun j hj=>?_) fuel listed σ h3 ?_ ?_ hs
    · rcases h2 j hj with h | h
      · exact .inl h
      · right
        split at h
        · rename_i oj hoj
          rw[Array.any_eq_true'] at h
          obtain ⟨e,he,hb⟩:=h
          simp only[Bool.and_eq_true,List.contains_iff_mem] at hb
          exact⟨oj,hoj,e,he,hb.1,hb.2⟩
        · simp at h
    · rw[mem_ready]
      refine⟨h3 i h1,o,hi,fun e he hb=>?_⟩
      rw[Array.all_eq_true'] at h4
      have:=h4 e he
      simpa [hb] using this
    · intro j oj hoj hl hjD
      have hj:j<ops.size:=(Array.getElem?_eq_some_iff.1 hoj).1
      rcases h5 j (List.mem_range.2 hj) with (h | h) | h
      · exact absurd h hjD
      · rw[hl] at h;simp at h
      · simpa [hoj] using h
inductive PT where
  | nil
  | take (i:Nat) (t:PT)
  | both (i:Nat) (t:PT) (j:Nat) (u:PT)
  | three (i:Nat) (t:PT) (j:Nat) (u:PT) (k:Nat) (v:PT)
def PT.ok (ops:Array Oper) (qs:List Nat):PT→Nat→Array Bool→Bool
  | .nil,n,listed=>n == 0 && (Region.ready .any ops listed).isEmpty
  | .take _ _,0,_=>false
  | .take i t,n+1,listed=>takeOK ops qs listed i (depsOf ops i) && t.ok ops qs n (listed.setIfInBounds i true)
  | .both _ _ _ _,0,_=>false
  | .both i t j u,n+1,listed=>(Region.ready .any ops listed == [i,j]) && t.ok ops qs n (listed.setIfInBounds i true) && u.ok ops qs n (listed.setIfInBounds j true)
  | .three _ _ _ _ _ _,0,_=>false
  | .three i t j u k v,n+1,listed=>(Region.ready .any ops listed == [i,j,k]) && t.ok ops qs n (listed.setIfInBounds i true) && u.ok ops qs n (listed.setIfInBounds j true) && v.ok ops qs n (listed.setIfInBounds k true)
def planW (P:Program) (ops:Array Oper) (qs:List Nat):PT→(St→Prop)→St→Prop
  | .nil,K,σ=>K σ
  | .take i t,K,σ=>stepAt P ops qs i (planW P ops qs t K) σ
  | .both i t j u,K,σ=>stepAt P ops qs i (planW P ops qs t K) σ∧stepAt P ops qs j (planW P ops qs u K) σ
  | .three i t j u k v,K,σ=>stepAt P ops qs i (planW P ops qs t K) σ∧stepAt P ops qs j (planW P ops qs u K) σ∧stepAt P ops qs k (planW P ops qs v K) σ
theorem plan_any {ops:Array Oper} {qs:List Nat} {K:St→Prop}:∀ (t:PT) (n:Nat) (listed:Array Bool) (σ:St),t.ok ops qs n listed=true→planW P ops qs t K σ→anyW P ops qs K n listed σ
  | .nil,n,listed,σ,h,hp=>by
    simp only[PT.ok,Bool.and_eq_true,beq_iff_eq,List.isEmpty_iff] at h
    obtain ⟨rfl,h⟩:=h
    exact⟨h,hp⟩
  | .take _ _,0,_,_,h,_=>by simp[PT.ok] at h
  | .take i t,n+1,listed,σ,h,hp=>by
    simp only[PT.ok,Bool.and_eq_true] at h
    exact take_ok h.1 (stepAt_mono (fun s hs=>plan_any t n _ s h.2 hs) hp)
  | .both _ _ _ _,0,_,_,h,_=>by simp[PT.ok] at h
  | .both i t j u,n+1,listed,σ,h,hp=>by
    simp only[PT.ok,Bool.and_eq_true,beq_iff_eq] at h
    obtain ⟨⟨h1,h2⟩,h3⟩:=h
    refine⟨fun e=>by rw[h1] at e;simp at e,fun k hk=>?_⟩
    rw[h1] at hk
    simp only[List.mem_cons,List.not_mem_nil,or_false] at hk
    rcases hk with rfl | rfl
    · exact stepAt_mono (fun s hs=>plan_any t n _ s h2 hs) hp.1
    · exact stepAt_mono (fun s hs=>plan_any u n _ s h3 hs) hp.2
  | .three _ _ _ _ _ _,0,_,_,h,_=>by simp[PT.ok] at h
  | .three i t j u k v,n+1,listed,σ,h,hp=>by
    simp only[PT.ok,Bool.and_eq_true,beq_iff_eq] at h
    obtain ⟨⟨⟨h1,h2⟩,h3⟩,h4⟩:=h
    refine⟨fun e=>by rw[h1] at e;simp at e,fun x hk=>?_⟩
    rw[h1] at hk
    simp only[List.mem_cons,List.not_mem_nil,or_false] at hk
    rcases hk with rfl | rfl | rfl
    · exact stepAt_mono (fun s hs=>plan_any t n _ s h2 hs) hp.1
    · exact stepAt_mono (fun s hs=>plan_any u n _ s h3 hs) hp.2.1
    · exact stepAt_mono (fun s hs=>plan_any v n _ s h4 hs) hp.2.2
theorem W_draw {id:Nat} {ops:Array Oper} {Q:Exit→St→Prop} (qs:List Nat) (t:PT) (hm:P.follows .mixedOrders=true) (hd:dstOK N ops=true) (ht:t.ok ops qs ops.size (Array.replicate ops.size false)=true)
    (h:planW P ops qs t (Q .normal) σ):W P N n0 (.region id ops true) Q σ :=
  W_region_any qs hm hd (plan_any t _ _ σ ht h)
theorem W_draw_k {id:Nat} {ops:Array Oper} {y:Code} {Q:Exit→St→Prop} (qs:List Nat) (t:PT) (hm:P.follows .mixedOrders=true) (hd:dstOK N ops=true) (ht:t.ok ops qs ops.size (Array.replicate ops.size false)=true)
    (h:∀ K:St→Prop,(∀ s,W P N n0 y Q s→K s)→planW P ops qs t K σ):W P N n0 (.seq (.region id ops true) y) Q σ :=
  W_seq (W_draw qs t hm hd ht (h _ (fun _ h=>h)))
theorem planW_nil {ops:Array Oper} {qs:List Nat} {K:St→Prop}:planW P ops qs .nil K σ=K σ:=rfl
theorem planW_take {ops:Array Oper} {qs:List Nat} {i:Nat} {t:PT} {K:St→Prop}:planW P ops qs (.take i t) K σ=stepAt P ops qs i (planW P ops qs t K) σ:=rfl
theorem planW_three {ops:Array Oper} {qs:List Nat} {i j k:Nat} {t u v:PT} {K:St→Prop}:planW P ops qs (.three i t j u k v) K σ=(stepAt P ops qs i (planW P ops qs t K) σ∧stepAt P ops qs j (planW P ops qs u K) σ∧stepAt P ops qs k (planW P ops qs v K) σ):=rfl
theorem planW_both {ops:Array Oper} {qs:List Nat} {i j:Nat} {t u:PT} {K:St→Prop}:planW P ops qs (.both i t j u) K σ=(stepAt P ops qs i (planW P ops qs t K) σ∧stepAt P ops qs j (planW P ops qs u K) σ):=rfl
theorem guardM_tt {q:Bool} {o:Oper} {K:St→Prop}:guardM q P o K true true σ=opGm q P o σ K:=by simp[guardM]
theorem guardM_ff {q:Bool} {o:Oper} {K:St→Prop}:guardM q P o K false false σ=opGm q P o σ K:=by simp[guardM]
theorem guardM_tf {q:Bool} {o:Oper} {K:St→Prop}:guardM q P o K true false σ=K (σ.put o.dst (.lit (.tuple #[]))):=by simp[guardM]
theorem guardM_ft {q:Bool} {o:Oper} {K:St→Prop}:guardM q P o K false true σ=K (σ.put o.dst (.lit (.tuple #[]))):=by simp[guardM]
theorem guardM_split {q:Bool} {o:Oper} {K:St→Prop} {b want:Bool} (h1:b=true→guardM q P o K true want σ) (h2:b=false→guardM q P o K false want σ):guardM q P o K b want σ:=by
  cases b
  · exact h2 rfl
  · exact h1 rfl
def seqP:List Nat→PT
  | []=>.nil
  | i::r=>.take i (seqP r)
end Go.Am
namespace Go.Am
variable {P:Program} {N n0:Nat} {σ:St} {Q:Exit→St→Prop}
def slots:List (Nat × AV)→Nat→AV
  | []=>fun _=>.undef
  | p::l=>upd (slots l) p.1 p.2
theorem slots_cons (d:Nat) (v:AV) (l:List (Nat × AV)):slots ((d,v)::l)=upd (slots l) d v:=rfl
theorem slots_or (l:List (Nat × AV)) (k:Nat):slots l k=.undef∨∃ p∈l,p.1=k∧slots l k=p.2:=by
  induction l with
  | nil=>exact .inl rfl
  | cons p l ih =>
    by_cases h:k=p.1
    · right
      exact⟨p,by simp,h.symm,by simp[slots,upd,h]⟩
    · have e:slots (p::l) k=slots l k:=by simp[slots,upd,h]
      rw[e]
      rcases ih with h | ⟨q,hq,h1,h2⟩
      · exact .inl h
      · exact .inr ⟨q,by simp[hq],h1,h2⟩
def Has (e:Nat→AV):List (Nat × AV)→Prop
  | []=>True
  | p::l=>e p.1=p.2∧Has e l
theorem Has.mem {e:Nat→AV}:∀ {l:List (Nat × AV)},Has e l→∀ p∈l,e p.1=p.2
  | q::l,h,p,hp=>by
    rcases List.mem_cons.1 hp with rfl | hp
    · exact h.1
    · exact Has.mem h.2 p hp
theorem Turns.slots (l:List (Nat × AV)) (os:List Ob) (ho:σ.objs=os) (h:Has σ.env l):Turns n0 σ ⟨slots l,os⟩:=by
  subst ho
  refine Turns.forget fun k=>?_
  rcases slots_or l k with h' | ⟨p,hp,rfl,h'⟩
  · exact .inl h'
  · right;rw[h',h.mem p hp]
def SelO (ρ:Nat→Nat) (os:List Ob):List Nat→List Ob→Prop
  | [],[]=>True
  | i::sel,o::co=>(i<os.length∧(o=.gone∨os[i]?=some (renO ρ o)))∧SelO ρ os sel co
  | _,_=>False
theorem SelO.spec {ρ:Nat→Nat} {os:List Ob}:∀ {sel:List Nat} {co:List Ob},SelO ρ os sel co→co.length=sel.length∧(∀ (j:Nat) o,co[j]?=some o→o=.gone∨os[sel.getD j 0]?=some (renO ρ o))∧∀ i∈sel,i<os.length
  | [],[],_=>⟨rfl,by simp,by simp⟩
  | i::sel,o::co,h=>by
    obtain ⟨⟨h1,h2⟩,h3⟩:=h
    obtain ⟨a,b,c⟩:=SelO.spec h3
    refine⟨by simp[a],fun j o' hj=>?_,fun x hx=>?_⟩
    · cases j with
      | zero=>simp at hj;subst hj;simpa using h2
      | succ j=>simpa using b j o' (by simpa using hj)
    · rcases List.mem_cons.1 hx with rfl | hx
      · exact h1
      · exact c x hx
def HasR (R:AV→AV→Prop) (e:Nat→AV):List (Nat × AV)→Prop
  | []=>True
  | p::l=>R p.2 (e p.1)∧HasR R e l
theorem HasR.mem {R:AV→AV→Prop} {e:Nat→AV}:∀ {l:List (Nat × AV)},HasR R e l→∀ p∈l,R p.2 (e p.1)
  | q::l,h,p,hp=>by
    rcases List.mem_cons.1 hp with rfl | hp
    · exact h.1
    · exact HasR.mem h.2 p hp
def kept (sel:List Nat) (co:List Ob) (id:Nat):Prop:=∃ j,j<sel.length∧sel.getD j 0=id∧co[j]?≠some .gone
theorem Turns.sel (sel:List Nat) (snap:Bool) (l:List (Nat × AV)) (co:List Ob) (hnd:sel.Nodup) (ho:SelO (rho σ.objs.length sel) σ.objs sel co) (hn:n0≤sel.length) (hid:∀ i,i<n0→sel.getD i 0=i)
    (h:HasR (ArgR σ (kept sel co) (rho σ.objs.length sel) snap) σ.env l):Turns n0 σ ⟨Am.slots l,co⟩:=by
  obtain ⟨h1,h2,h3⟩:=ho.spec
  refine Turns.select sel snap co _ hnd h1 h2 h3 hn hid fun k=>?_
  rcases slots_or l k with h' | ⟨p,hp,rfl,h'⟩
  · exact .inl h'
  · right;rw[h'];exact h.mem p hp
theorem ArgR.pure {kp:Nat→Prop} {ρ:Nat→Nat} {snap:Bool} {v:AV} (h:noRef v=true):ArgR σ kp ρ snap v v:=by
  have:=ArgR.same (σ:=σ) (kp:=kp) (ρ:=ρ) (snap:=snap) v
  rwa [ren_noRef _ v h] at this
theorem ArgR.eq {kp:Nat→Prop} {ρ:Nat→Nat} {snap:Bool} {v u:AV} (h:u=ren ρ v):ArgR σ kp ρ snap v u:=by
  subst h;exact .same v
theorem Frz.flat {kp:Nat→Prop} {id sz len:Nat} {rows:List (List AV)} (ho:σ.objs[id]?=some (.arr sz rows)) (hw:∀ row∈rows,row.length=sz) (hl:len=rows.length) (hsel:¬ kp id) (hf:∀ row∈rows,∀ v∈row,(∃ x,v=.lit x)∨∃ s r,v=.tree s r) :
    Frz σ kp (.tree sz rows) (.ref id sz 0 len):=by
  refine .ref id sz 0 len rows rows (fun r c=>(cellAt rows r c).getD .undef) ho hsel (by simp[hl]) hw (fun r c v hv=>?_) (fun r c v hv=>?_)
  · simp[hl,hv]
  · rw[hv,Option.getD_some]
    simp only[cellAt,Option.bind_eq_some_iff] at hv
    obtain ⟨row,h1,h2⟩:=hv
    rcases hf row (List.mem_of_getElem? h1) v (List.mem_of_getElem? h2) with ⟨x,rfl⟩ | ⟨s,r,rfl⟩
    · exact .lit x
    · exact .tree s r
theorem ArgR.nil {kp:Nat→Prop} {ρ:Nat→Nat} {sz:Nat}:ArgR σ kp ρ true (.tree sz []) (.lit (.slice none 0 0)):=.snap _ _ rfl (.nil sz)
theorem ArgR.frz {kp:Nat→Prop} {ρ:Nat→Nat} {id sz len:Nat} {rows:List (List AV)} (ho:σ.objs[id]?=some (.arr sz rows)) (hw:∀ row∈rows,row.length=sz) (hl:len=rows.length) (hsel:¬ kp id) (hf:∀ row∈rows,∀ v∈row,(∃ x,v=.lit x)∨∃ s r,v=.tree s r) :
    ArgR σ kp ρ true (.tree sz rows) (.ref id sz 0 len):=.snap _ _ rfl (Frz.flat ho hw hl hsel hf)
def loopT {α:Type} (n0:Nat) (S:α→St) (I:α→Prop) (M:α→Nat) (x:α) (Q:Exit→St→Prop):Exit→St→Prop
  | .normal,s=>∃ y,I y∧M y<M x∧Turns n0 s (S y)
  | e,s=>Q e s
theorem W_loopT {α:Type} {c:Code} (S:α→St) (I:α→Prop) (M:α→Nat) (x0:α) (hI:I x0) (h0:Turns n0 σ (S x0)) (round:∀ x,I x→∀ Q':Exit→St→Prop,(∀ s y,I y→M y<M x→Turns n0 s (S y)→Q' .normal s)→(∀ e s,e≠.normal→Q e s→Q' e s)→W P N n0 c Q' (S x)):W P N n0 (.loop c) Q σ:=by
  refine W_turn h0 ?_
  intro os γ0 a w hn hok b k cs
  have key:∀ n x a w,M x=n→I x→Okay N os γ0 (S x) a w →
      ∃ e a' w',(∃ σ',Q e σ'∧Okay N os γ0 σ' a' w')∧Arrives P (lone (b.at a (.code c::.inLoop c::k)) cs w) b k cs e a' w':=by
    intro n
    induction n using Nat.strongRecOn with
    | _ n ih =>
      intro x a w hm hI hok
      have hr:W P N n0 c (loopT n0 S I M x Q) (S x):=round x hI _ (fun s y h1 h2 h3=>⟨y,h1,h2,h3⟩) (fun e s he h=>by cases e<;>first|exact absurd rfl he|exact h)
      obtain ⟨e,a₁,w₁,⟨σ',hq,hok'⟩,harr⟩:=hr os γ0 a w hn hok b (.inLoop c::k) cs
      cases e with
      | normal =>
        obtain ⟨y,hIy,hlt,ht⟩:=hq
        obtain ⟨h1,h2,γ,rfl,h3,h4,h5⟩:=hok'
        obtain ⟨γ',e1,e2,e3,e4⟩:=ht os γ0 γ hn h4 h5
        obtain ⟨e₂,a₂,w₂,hq₂,harr₂⟩:=ih (M y) (by omega) y a₁ γ.w rfl hIy ⟨h1,h2,γ',e1,e2.trans h3,e3,e4⟩
        exact⟨e₂,a₂,w₂,hq₂,.of_steps (Steps.trans harr (.one step_inLoop)) harr₂⟩
      | exit id=>exact⟨_,a₁,w₁,⟨σ',hq,hok'⟩,.pass (x:=.inLoop c) rfl (fun _ _=>.inl (by simp)) harr⟩
      | goto l=>exact⟨_,a₁,w₁,⟨σ',hq,hok'⟩,.pass (x:=.inLoop c) rfl (fun _ _=>.inl (by simp)) harr⟩
      | ret=>exact⟨_,a₁,w₁,⟨σ',hq,hok'⟩,.pass (x:=.inLoop c) rfl (fun _ _=>.inl (by simp)) harr⟩
      | panic ch=>exact⟨_,a₁,w₁,⟨σ',hq,hok'⟩,.pass (x:=.inLoop c) rfl (fun _ _=>.inl (by simp)) harr⟩
      | outgrown=>exact⟨_,a₁,w₁,⟨σ',hq,hok'⟩,.pass (x:=.inLoop c) rfl (fun _ _=>.inl (by simp)) harr⟩
  obtain ⟨e,a',w',hq,harr⟩:=key _ x0 a w rfl hI hok
  exact⟨e,a',w',hq,.of_steps (.one step_loop) harr⟩
theorem W_block_k {id:Nat} {c:Code} (h:∀ Q':Exit→St→Prop,(∀ s,Q .normal s→Q' .normal s)→(∀ s,Q .normal s→Q' (.exit id) s)→(∀ e s,e≠.normal→e≠.exit id→Q e s→Q' e s)→W P N n0 c Q' σ):W P N n0 (.block id c) Q σ :=
  W_block (h _ (fun s h=>h) (fun s h=>by simp only[blockQ,if_true];exact h) (fun e s h1 h2 h=>by
    cases e<;>first
      | exact absurd rfl h1
      | exact h
      | (rename_i id';simp only[blockQ];rw[if_neg (fun e=>h2 (by rw[e]))];exact h)))
theorem renO_noRef {ρ:Nat→Nat} {sz:Nat} {rows:List (List AV)} (h:∀ row∈rows,noRefL row=true):renO ρ (.arr sz rows)=.arr sz rows:=by
  simp only[renO]
  congr 1
  have:∀ row∈rows,row.map (ren ρ)=row:=fun row hr=>by
    have:=renL_noRef ρ row (h row hr)
    rwa [renL_eq] at this
  rw[List.map_congr_left this]
  simp
theorem rho_range (n j:Nat):rho n (List.range n) j=j:=by
  unfold rho
  split
  · rename_i h
    have h':j<n:=by simpa using h
    simp[List.getD_eq_getElem?_getD,List.getElem?_range h']
  · rename_i h
    simp at h ⊢
    omega
mutual
theorem ren_id:∀ (v:AV),ren (fun j=>j) v=v
  | .undef=>rfl
  | .lit _=>rfl
  | .tree ..=>rfl
  | .taddr _=>rfl
  | .ref ..=>rfl
  | .ptr ..=>rfl
  | .agg cs=>by simp only[ren];rw[renL_id cs]
  | .tup cs=>by simp only[ren];rw[renL_id cs]
  | .fn f cs=>by simp only[ren];rw[renL_id cs]
  | .ifc t v=>by simp only[ren];rw[ren_id v]
  | .mref _=>rfl
theorem renL_id:∀ (l:List AV),renL (fun j=>j) l=l
  | []=>rfl
  | v::vs=>by simp only[renL];rw[ren_id v,renL_id vs]
end
theorem renO_id (o:Ob):renO (fun j=>j) o=o:=by
  have h:ren (fun j=>j)=id:=by funext v;exact ren_id v
  cases o with
  | gone=>rfl
  | var cs=>simp[renO,h]
  | arr sz rows=>simp[renO,h]
  | mp ag L=>simp[renO,h]
theorem rho_id (n:Nat):rho n (List.range n)=fun j=>j:=by funext j;exact rho_range n j
theorem mergeO_range (objs:List Ob):∀ (objs':List Ob),objs.length≤objs'.length→mergeO objs (List.range objs.length) objs'=objs':=by
  intro objs' h
  have hlen:(List.range objs.length).length≤objs'.length:=by simpa using h
  apply List.ext_getElem?
  intro i
  rcases Nat.lt_or_ge i objs.length with hi | hi
  · have:=mergeO_sel (List.range objs.length) objs objs' hlen (List.nodup_range) (by simp) i (by simpa using hi)
    simpa [List.getD_eq_getElem?_getD,List.getElem?_range hi] using this
  · have hml:=mergeO_length (List.range objs.length) objs objs' hlen
    obtain ⟨j,rfl⟩ :∃j,i=objs.length+j:=⟨i - objs.length,by omega⟩
    have:=mergeO_new (List.range objs.length) objs objs' hlen j
    simpa using this
theorem callK_all {f:FuncId} {args:List AV} {dst:Option Tmp} {K:St→Prop} {res:AV} {objs':List Ob} (h:Holds P f args σ.objs res objs') (hl:σ.objs.length≤objs'.length) (hK:K ((⟨σ.env,objs'⟩:St).put dst res)):callK P f args dst K σ:=by
  refine⟨List.range σ.objs.length,false,args,σ.objs,res,objs',h,⟨List.nodup_range,by simp,?_,rfl,?_,by simp⟩,?_⟩
  · intro j o hj
    have hlt:=(List.getElem?_eq_some_iff.1 hj).1
    rw[rho_id,renO_id]
    simpa [List.getD_eq_getElem?_getD,List.getElem?_range hlt] using hj
  · intro j c d hc hd
    rw[hc] at hd
    simp only[Option.some.injEq] at hd
    subst hd
    exact .eq (by rw[rho_id,ren_id])
  · rw[rho_id,ren_id]
    have:objs'.map (renO (fun j=>j))=objs':=by
      have h:renO (fun j=>j)=id:=by funext o;exact renO_id o
      simp[h]
    rw[this,mergeO_range _ _ hl]
    exact hK
end Go.Am
namespace Go.Am
variable {P:Program} {N n0:Nat} {σ:St} {Q:Exit→St→Prop}
theorem W_region_e {id:Nat} {ops:Array Oper} (hd:dstOK N ops=true) (h:∀ K:St→Prop,(∀ s,Q .normal s→K s)→opsL P ops ops.toList K σ):W P N n0 (.region id ops false) Q σ :=
  W_region hd (h _ (fun _ h=>h))
theorem planW_seqP {ops:Array Oper} {K:St→Prop}:∀ (l:List Oper) (i:Nat) (σ:St),ops.toList.drop i=l→opsL P ops l K σ→planW P ops [] (seqP (List.range' i l.length)) K σ
  | [],i,σ,_,h=>h
  | o::r,i,σ,hl,h=>by
    have hi:ops[i]?=some o:=by
      have:(ops.toList.drop i)[0]?=some o:=by rw[hl];rfl
      simpa using this
    have hr:ops.toList.drop (i+1)=r:=by
      have:=congrArg List.tail hl
      simpa [List.tail_drop] using this
    rw[List.length_cons,List.range'_succ]
    show stepAt P ops [] i (planW P ops [] (seqP (List.range' (i+1) r.length)) K) σ
    unfold stepAt
    simp only[hi]
    have hm:∀ s,opsL P ops r K s→planW P ops [] (seqP (List.range' (i+1) r.length)) K s:=fun s hs=>planW_seqP r (i+1) s hr hs
    refine stepD_mono hm ?_
    unfold opsL at h
    unfold stepD
    cases hg:o.guard with
    | none=>simp only[hg] at h;exact h
    | some jw =>
      obtain ⟨j,want⟩:=jw
      simp only[hg] at h
      exact h
def inText (ops:Array Oper):Bool:=(seqP (List.range ops.size)).ok ops [] ops.size (Array.replicate ops.size false)
theorem W_draw_o {id:Nat} {ops:Array Oper} {y:Code} (hm:P.follows .mixedOrders=true) (hd:dstOK N ops=true) (ht:inText ops=true) (h:∀ K:St→Prop,(∀ s,W P N n0 y Q s→K s)→opsL P ops ops.toList K σ) :
    W P N n0 (.seq (.region id ops true) y) Q σ :=
  W_draw_k [] _ hm hd ht fun K hK=>by
    have:=planW_seqP (P:=P) (ops:=ops) ops.toList 0 σ rfl (h K hK)
    rw[List.range_eq_range']
    simpa using this
theorem W_draw_oe {id:Nat} {ops:Array Oper} (hm:P.follows .mixedOrders=true) (hd:dstOK N ops=true) (ht:inText ops=true) (h:∀ K:St→Prop,(∀ s,Q .normal s→K s)→opsL P ops ops.toList K σ) :
    W P N n0 (.region id ops true) Q σ :=
  W_draw [] _ hm hd ht (by
    have:=planW_seqP (P:=P) (ops:=ops) ops.toList 0 σ rfl (h _ (fun _ h=>h))
    rw[List.range_eq_range']
    simpa using this)
theorem RetOK_pure' {v res:AV} (hr:noRef v=true) (h:v=res):RetOK 0 σ v res []:=by
  subst h;exact RetOK_pure hr
theorem upd_app (e:Nat→AV) (d:Nat) (v:AV) (k:Nat):upd e d v k=if k=d then v else e k:=by simp only[upd]
theorem i64min:IntKind.i64.min = -9223372036854775808:=rfl
theorem i64max:IntKind.i64.max=9223372036854775807:=rfl
def ints (xs:List Int):List (List AV):=xs.map fun x=>[.lit (.int .i64 x)]
def bools (xs:List Bool):List (List AV):=xs.map fun x=>[.lit (.bool x)]
def intss (xs:List (List Int)):List (List AV):=xs.map fun x=>[.tree 1 (ints x)]
theorem ints_length (xs:List Int):(ints xs).length=xs.length:=by simp[ints]
theorem bools_length (xs:List Bool):(bools xs).length=xs.length:=by simp[bools]
theorem intss_length (xs:List (List Int)):(intss xs).length=xs.length:=by simp[intss]
theorem ints_getD (xs:List Int) (i:Nat) (h:i<xs.length):(ints xs).getD i []=[.lit (.int .i64 (xs.getD i 0))]:=by simp[ints,h]
theorem bools_getD (xs:List Bool) (i:Nat) (h:i<xs.length):(bools xs).getD i []=[.lit (.bool (xs.getD i false))]:=by simp[bools,h]
theorem intss_getD (xs:List (List Int)) (i:Nat) (h:i<xs.length):(intss xs).getD i []=[.tree 1 (ints (xs.getD i []))]:=by simp[intss,h]
theorem ints_get (xs:List Int) (i:Nat) (h:i<xs.length):(ints xs)[i]?=some [.lit (.int .i64 (xs.getD i 0))]:=by simp[ints,h]
theorem bools_get (xs:List Bool) (i:Nat) (h:i<xs.length):(bools xs)[i]?=some [.lit (.bool (xs.getD i false))]:=by simp[bools,h]
theorem intss_get (xs:List (List Int)) (i:Nat) (h:i<xs.length):(intss xs)[i]?=some [.tree 1 (ints (xs.getD i []))]:=by simp[intss,h]
theorem ints_set (xs:List Int) (i:Nat) (v:Int):(ints xs).set i [.lit (.int .i64 v)]=ints (xs.set i v):=by simp[ints,List.map_set]
theorem bools_set (xs:List Bool) (i:Nat) (v:Bool):(bools xs).set i [.lit (.bool v)]=bools (xs.set i v):=by simp[bools,List.map_set]
theorem ints_app (xs ys:List Int):ints xs++ints ys=ints (xs++ys):=by simp[ints]
theorem ints_app1 (xs:List Int) (v:Int):ints xs++[[.lit (.int .i64 v)]]=ints (xs++[v]):=by simp[ints]
theorem intss_app1 (xs:List (List Int)) (v:List Int):intss xs++[[.tree 1 (ints v)]]=intss (xs++[v]):=by simp[intss]
theorem bools_app1 (xs:List Bool) (v:Bool):bools xs++[[.lit (.bool v)]]=bools (xs++[v]):=by simp[bools]
theorem ints_rep (n:Nat) (v:Int):List.replicate n [AV.lit (.int .i64 v)]=ints (List.replicate n v):=by simp[ints]
theorem bools_rep (n:Nat) (v:Bool):List.replicate n [AV.lit (.bool v)]=bools (List.replicate n v):=by simp[bools]
theorem ints_scal (xs:List Int):((ints xs).all fun row=>row.all scal)=true:=by simp[ints,scal,Value.oneCell']
theorem bools_scal (xs:List Bool):((bools xs).all fun row=>row.all scal)=true:=by simp[bools,scal,Value.oneCell']
theorem intss_scal (xs:List (List Int)):((intss xs).all fun row=>row.all scal)=true:=by simp[intss,scal]
theorem ints_ren (ρ:Nat→Nat) (sz:Nat) (xs:List Int):renO ρ (.arr sz (ints xs))=.arr sz (ints xs):=renO_noRef (by simp[ints,noRefL,noRef])
theorem bools_ren (ρ:Nat→Nat) (sz:Nat) (xs:List Bool):renO ρ (.arr sz (bools xs))=.arr sz (bools xs):=renO_noRef (by
  intro row hr
  simp only[bools,List.mem_map] at hr
  obtain ⟨x,_,rfl⟩:=hr
  rfl)
theorem intss_ren (ρ:Nat→Nat) (sz:Nat) (xs:List (List Int)):renO ρ (.arr sz (intss xs))=.arr sz (intss xs):=renO_noRef (by simp[intss,noRefL,noRef])
theorem ints_frz (xs:List Int):∀ row∈ints xs,∀ v∈row,(∃ x,v=AV.lit x)∨∃ s r,v=AV.tree s r:=by
  intro row hr v hv
  simp only[ints,List.mem_map] at hr
  obtain ⟨x,_,rfl⟩:=hr
  simp at hv
  exact .inl ⟨_,hv⟩
theorem bools_frz (xs:List Bool):∀ row∈bools xs,∀ v∈row,(∃ x,v=AV.lit x)∨∃ s r,v=AV.tree s r:=by
  intro row hr v hv
  simp only[bools,List.mem_map] at hr
  obtain ⟨x,_,rfl⟩:=hr
  simp at hv
  exact .inl ⟨_,hv⟩
theorem intss_frz (xs:List (List Int)):∀ row∈intss xs,∀ v∈row,(∃ x,v=AV.lit x)∨∃ s r,v=AV.tree s r:=by
  intro row hr v hv
  simp only[intss,List.mem_map] at hr
  obtain ⟨x,_,rfl⟩:=hr
  simp at hv
  exact .inr ⟨_,_,hv⟩
theorem ints_wid (xs:List Int):∀ row∈ints xs,row.length=1:=by
  intro row hr;simp only[ints,List.mem_map] at hr;obtain ⟨x,_,rfl⟩:=hr;rfl
theorem bools_wid (xs:List Bool):∀ row∈bools xs,row.length=1:=by
  intro row hr;simp only[bools,List.mem_map] at hr;obtain ⟨x,_,rfl⟩:=hr;rfl
theorem intss_wid (xs:List (List Int)):∀ row∈intss xs,row.length=1:=by
  intro row hr;simp only[intss,List.mem_map] at hr;obtain ⟨x,_,rfl⟩:=hr;rfl
theorem getD_drop0 {α:Type} (xs:List α) (i:Nat) (d:α) (h:i<xs.length):xs.drop i=xs.getD i d::xs.drop (i+1):=by
  rw[List.drop_eq_getElem_cons h];simp[h]
end Go.Am
namespace Go.Am
variable {P:Program} {dst:Option Tmp} {tt:TypeId} {p:String} {af:Array Edge} {g:Option (Nat × Bool)} {σ:St} {K:St→Prop}
def liveO:Option Ob→Prop
  | some (.var _)=>True
  | some (.arr _ _)=>True
  | some (.mp _ _)=>True
  | _=>False
theorem liveO_mp (a:Nat) (L:List (List Int × AV)):liveO (some (.mp a L))=True:=by simp only[liveO]
theorem liveO_var (c:List AV):liveO (some (.var c))=True:=by simp only[liveO]
theorem liveO_arr (s:Nat) (c:List (List AV)):liveO (some (.arr s c))=True:=by simp only[liveO]
def nilK (σ:St) (dst:Option Tmp) (K:St→Prop):AV→Prop
  | .ptr id r c=>liveO σ.objs[id]?∧K (σ.put dst (.ptr id r c))
  | .taddr cells=>K (σ.put dst (.taddr cells))
  | _=>False
theorem opG_nilCheck (x:Operand):opG P ⟨dst,.nilCheck x,tt,p,af,g⟩ σ K=nilK σ dst K (ev σ x):=by
  simp only[opG,opW]
  cases ev σ x<;>simp only[nilK]
  rename_i id r c
  cases h:σ.objs[id]? with
  | none=>simp[liveO]
  | some o=>cases o<;>simp[liveO]
def faK (σ:St) (dst:Option Tmp) (K:St→Prop) (off:Nat):AV→Prop
  | .ptr id r c=>liveO σ.objs[id]?∧K (σ.put dst (.ptr id r (c+off)))
  | .taddr cells=>K (σ.put dst (.taddr (cells.drop off)))
  | _=>False
def faT (σ:St) (dst:Option Tmp) (K:St→Prop) (v:AV) (kind:Nat):Option (Nat × Nat × Nat)→Prop
  | some (off,_,size)=>kind=3∧0<size∧faK σ dst K off v
  | none=>False
theorem opG_fieldAddr (s:TypeId) (x:Operand) (f:Nat):opG P ⟨dst,.fieldAddr s x f,tt,p,af,g⟩ σ K=faT σ dst K (ev σ x) (ty P s).kind (ty P s).flds[f]?:=by
  simp only[opG,opW]
  split
  · rename_i off ft size hk hf
    rw[hk,hf]
    simp only[faT,true_and]
    cases ev σ x<;>simp only[faK]
    rename_i id r c
    cases h:σ.objs[id]? with
    | none=>simp[liveO]
    | some o=>cases o<;>simp[liveO]
  · rename_i hne
    cases hf:(ty P s).flds[f]? with
    | none=>simp[faT]
    | some q =>
      obtain ⟨off,ft,size⟩:=q
      simp only[faT]
      have:(ty P s).kind≠3:=fun e=>hne off ft size e hf
      simp[this]
def iaA (t:Ty) (e:Ty) (σ:St) (dst:Option Tmp) (K:St→Prop):AV→AV→Prop
  | .ref id sz off len,.lit (.int _ n) =>
    t.kind=1 ∧
    match σ.objs[id]? with
    | some (.arr sz' _)=>(sz'=sz∧sz=e.size∧e.kind≠99∧0≤n∧n<len)∧K (σ.put dst (.ptr id (off+n.toNat) 0))
    | _=>False
  | .tree sz rows,.lit (.int _ n)=>t.kind=1∧(sz=e.size∧e.kind≠99∧0≤n∧n<rows.length)∧K (σ.put dst (.taddr (rows.getD n.toNat [])))
  | .ptr id r c,.lit (.int _ n)=>t.kind=2∧liveO σ.objs[id]?∧(e.kind≠99∧0≤n∧n<t.len)∧K (σ.put dst (.ptr id r (c+n.toNat * e.size)))
  | _,_=>False
theorem opG_indexAddr (t:TypeId) (x i:Operand):opG P ⟨dst,.indexAddr t x i,tt,p,af,g⟩ σ K=iaA (ty P t) (ty P (ty P t).elem) σ dst K (ev σ x) (ev σ i):=by
  simp only[opG,opW]
  split
  · rename_i id sz off len k n hk hx hi
    rw[hx,hi];simp only[iaA,hk,true_and]
    cases σ.objs[id]? with
    | none=>rfl
    | some o=>cases o<;>rfl
  · rename_i sz rows k n hk hx hi
    rw[hx,hi];simp only[iaA,hk,true_and]
  · rename_i id r c k n hk hx hi
    rw[hx,hi];simp only[iaA,hk,true_and]
    cases h:σ.objs[id]? with
    | none=>simp[liveO]
    | some o=>cases o<;>simp[liveO]
  · rename_i h1 h2 h3
    unfold iaA
    split
    · rename_i id sz off len k n hx hi
      simp only[eq_iff_iff,false_iff]
      rintro ⟨hk,_⟩
      exact h1 id sz off len k n hk hx hi
    · rename_i sz rows k n hx hi
      simp only[eq_iff_iff,false_iff]
      rintro ⟨hk,_⟩
      exact h2 sz rows k n hk hx hi
    · rename_i id r c k n hx hi
      simp only[eq_iff_iff,false_iff]
      rintro ⟨hk,_⟩
      exact h3 id r c k n hk hx hi
    · rfl
def callV (P:Program) (dst:Option Tmp) (args:List AV) (K:St→Prop) (σ:St):AV→Prop
  | .fn g caps=>callK P g (args++caps) dst K σ
  | _=>False
theorem opG_call (f:Operand) (args:Array Operand) (ats:Array TypeId):opG P ⟨dst,.call ⟨.value f,args,ats⟩,tt,p,af,g⟩ σ K=callV P dst (args.toList.map (ev σ)) K σ (ev σ f):=by
  simp only[opG]
  cases ev σ f<;>rfl
def invV (P:Program) (dst:Option Tmp) (args:List AV) (K:St→Prop) (σ:St) (m:String):AV→Prop
  | .ifc t v=>recvK P σ v (fun g x=>callK P g (x::args) dst K σ) (methT P t m)
  | _=>False
theorem opG_invoke (r:Operand) (m:String) (args:Array Operand) (ats:Array TypeId):opG P ⟨dst,.call ⟨.invoke r m,args,ats⟩,tt,p,af,g⟩ σ K=invV P dst (args.toList.map (ev σ)) K σ m (ev σ r):=by
  simp only[opG]
  cases ev σ r<;>rfl
def callVQ (P:Program) (dst:Option Tmp) (args:List AV) (K:St→Prop) (σ:St):AV→Prop
  | .fn g caps=>callQ P g (args++caps) dst K σ
  | _=>False
theorem opGm_call (f:Operand) (args:Array Operand) (ats:Array TypeId):opGm true P ⟨dst,.call ⟨.value f,args,ats⟩,tt,p,af,g⟩ σ K=callVQ P dst (args.toList.map (ev σ)) K σ (ev σ f):=by
  simp only[opGm]
  cases ev σ f<;>rfl
def evP (σ:St):List (Nat × Operand)→List (Nat × AV)
  | []=>[]
  | q::l=>(q.1,ev σ q.2)::evP σ l
def scalP (σ:St):List (Nat × Operand)→Bool
  | []=>true
  | q::l=>(cellsOf (ev σ q.2)).all scal && scalP σ l
theorem evP_eq (σ:St) (l:List (Nat × Operand)):evP σ l=l.map fun q=>(q.1,ev σ q.2):=by
  induction l with
  | nil=>rfl
  | cons q l ih=>simp only[evP,ih,List.map_cons]
theorem scalP_eq (σ:St) (l:List (Nat × Operand)):scalP σ l=l.all fun q=>(cellsOf (ev σ q.2)).all scal:=by
  induction l with
  | nil=>rfl
  | cons q l ih=>simp only[scalP,ih,List.all_cons]
theorem opGm_no (o:Oper):opGm false P o σ K=opG P o σ K:=by simp only[opGm]
theorem opG_move (x:Operand):opG P ⟨dst,.move x,tt,p,af,g⟩ σ K =
    (K (σ.put dst (ev σ x))):=by unfold opG opW;rfl
theorem opG_assign (x:Operand):opG P ⟨dst,.assign x,tt,p,af,g⟩ σ K =
    (K (σ.put dst (ev σ x))):=by unfold opG opW;rfl
theorem opG_pick (c a b:Operand):opG P ⟨dst,.pick c a b,tt,p,af,g⟩ σ K =
    (match ev σ c with
      | .lit (.bool t)=>K (σ.put dst (pickV t (ev σ a) (ev σ b)))
      | _=>False):=by unfold opG opW;rfl
theorem opG_alloc (e:TypeId):opG P ⟨dst,.alloc e,tt,p,af,g⟩ σ K =
    ((ty P e).kind≠99 ∧
      match (ty P e).zero with
      | some z=>K (({ σ with objs:=σ.objs++[.var (z.map .lit)] }:St).put dst (.ptr σ.objs.length 0 0))
      | none=>False):=by unfold opG opW;rfl
theorem opG_box (e:TypeId) (x:Operand):opG P ⟨dst,.box e x,tt,p,af,g⟩ σ K =
    ((cellsOf (ev σ x)).all scal=true∧K (({ σ with objs:=σ.objs++[.var (cellsOf (ev σ x))] }:St).put dst (.ptr σ.objs.length 0 0))):=by unfold opG opW;rfl
theorem opG_build (t:TypeId) (parts:Array (Nat × Operand)):opG P ⟨dst,.build t parts,tt,p,af,g⟩ σ K =
    (match (ty P t).kind,(ty P t).zero with
      | 3,some z =>
        match fillA (fun i=>((ty P t).flds[i]?).map fun f=>(f.1,f.2.2)) (z.map .lit) (evP σ parts.toList) with
        | some cs=>(scalP σ parts.toList=true∧((ty P t).flds.all fun f=>decide (0<f.2.2))=true)∧K (σ.put dst (.agg cs))
        | none=>False
      | 2,some z =>
        match fillA (fun i=>some (i * (ty P (ty P t).elem).size,(ty P (ty P t).elem).size)) (z.map .lit) (evP σ parts.toList) with
        | some cs=>(scalP σ parts.toList=true∧(ty P (ty P t).elem).kind≠99)∧K (σ.put dst (.agg cs))
        | none=>False
      | _,_=>False):=by rw[evP_eq,scalP_eq];unfold opG opW;rfl
theorem opG_buildSlice (t:TypeId) (len:Nat) (parts:Array (Nat × Operand)):opG P ⟨dst,.buildSlice t len parts,tt,p,af,g⟩ σ K =
    (match (ty P t).kind,(ty P (ty P t).elem).zero with
      | 1,some z =>
        match fillA (fun i=>some (i * (ty P (ty P t).elem).size,(ty P (ty P t).elem).size)) ((List.range len).flatMap fun _=>z.map .lit) (evP σ parts.toList) with
        | some cs=>((ty P (ty P t).elem).kind≠99∧0<(ty P (ty P t).elem).size∧z.length=(ty P (ty P t).elem).size∧len * (ty P (ty P t).elem).size≤16777216∧scalP σ parts.toList=true) ∧
            K (({ σ with objs:=σ.objs++[.arr (ty P (ty P t).elem).size (toRows (ty P (ty P t).elem).size len cs)] }:St).put dst (.ref σ.objs.length (ty P (ty P t).elem).size 0 len))
        | none=>False
      | _,_=>False):=by rw[evP_eq,scalP_eq];unfold opG opW;rfl
theorem opG_load (t:TypeId) (a:Operand):opG P ⟨dst,.load t a,tt,p,af,g⟩ σ K =
    ((ty P t).kind≠99 ∧
      match ev σ a with
      | .ptr id r c =>
        match rowOf σ id r with
        | some row=>loadA (ty P t) row c fun v=>K (σ.put dst v)
        | none=>False
      | .taddr cells=>loadA (ty P t) cells 0 fun v=>K (σ.put dst v)
      | _=>False):=by unfold opG opW;rfl
theorem opG_store (t:TypeId) (a x:Operand):opG P ⟨dst,.store t a x,tt,p,af,g⟩ σ K =
    ((ty P t).kind≠99 ∧
      match ev σ a with
      | .ptr id r c =>
        match rowOf σ id r with
        | some row=>((cellsOf (ev σ x)).length=(ty P t).size∧c+(ty P t).size≤row.length∧(cellsOf (ev σ x)).all scal=true)∧K ((setRowOf σ id r (setCells row c (cellsOf (ev σ x)))).put dst .undef)
        | none=>False
      | _=>False):=by unfold opG opW;rfl
theorem opG_binOp (op:BinOp) (t:TypeId) (x y:Operand) (yt:TypeId):opG P ⟨dst,.binOp op t x y yt,tt,p,af,g⟩ σ K =
    (match ev σ x,ev σ y with
      | .lit (.int k a),.lit (.int k' b)=>k=k'∧intW op k a b fun v=>K (σ.put dst (.lit v))
      | .lit (.bool a),.lit (.bool b) =>
        (ty P t).kind=6 ∧
        match op with
        | .eql=>K (σ.put dst (.lit (.bool (a == b))))
        | .neq=>K (σ.put dst (.lit (.bool (a != b))))
        | _=>False
      | .tree _ rows,.lit (.slice none 0 0) =>
        ((ty P t).kind=1∧0<rows.length) ∧
        match op with
        | .eql=>K (σ.put dst (.lit (.bool false)))
        | .neq=>K (σ.put dst (.lit (.bool true)))
        | _=>False
      | .lit (.slice a _ _),.lit (.slice none 0 0) =>
        (ty P t).kind=1 ∧
        match op with
        | .eql=>K (σ.put dst (.lit (.bool a.isNone)))
        | .neq=>K (σ.put dst (.lit (.bool (!a.isNone))))
        | _=>False
      | .agg cs,.agg ds =>
        match intsOf cs,intsOf ds with
        | some as,some bs =>
          (EqT P t as.length∧bs.length=as.length∧P.eqGuardType P.depth t=false) ∧
          match op with
          | .eql=>K (σ.put dst (.lit (.bool (decide (as=bs)))))
          | .neq=>K (σ.put dst (.lit (.bool (!decide (as=bs)))))
          | _=>False
        | _,_=>False
      | _,_=>False):=by unfold opG opW;rfl
theorem opG_unOp (op:UnOp) (t:TypeId) (x:Operand):opG P ⟨dst,.unOp op t x,tt,p,af,g⟩ σ K =
    (match op,ev σ x with
      | .not,.lit (.bool b)=>K (σ.put dst (.lit (.bool !b)))
      | .neg,.lit (.int k a)=>(k.min≤-a∧-a≤k.max)∧K (σ.put dst (.lit (.int k (-a))))
      | _,_=>False):=by unfold opG opW;rfl
theorem opG_makeFunc (fn:Fn) (first captured:Array Operand):opG P ⟨dst,.makeFunc fn first captured,tt,p,af,g⟩ σ K =
    (match fn with
      | .func f=>first.size=0∧K (σ.put dst (.fn f (captured.toList.map (ev σ))))
      | _=>False):=by unfold opG opW;rfl
theorem opG_makeSlice (t:TypeId) (l c:Operand):opG P ⟨dst,.makeSlice t l c,tt,p,af,g⟩ σ K =
    (match (ty P t).kind,(ty P (ty P t).elem).zero,ev σ l,ev σ c with
      | 1,some z,.lit (.int k n),.lit (.int k' n') =>
        ((ty P (ty P t).elem).kind≠99∧0<(ty P (ty P t).elem).size∧z.length=(ty P (ty P t).elem).size∧n'=n∧0≤n∧n≤1099511627776∧(ty P (ty P t).elem).bytes≤128∧k=k) ∧
          K (({ σ with objs:=σ.objs++[.arr (ty P (ty P t).elem).size (List.replicate n.toNat (z.map .lit))] }:St).put dst (.ref σ.objs.length (ty P (ty P t).elem).size 0 n.toNat))∧k'=k'
      | _,_,_,_=>False):=by unfold opG opW;rfl
theorem opG_slice (t:TypeId) (x:Operand) (lo hi mx:Option Operand):opG P ⟨dst,.slice t x lo hi mx,tt,p,af,g⟩ σ K =
    ((ty P t).kind=1∧(ty P (ty P t).elem).kind≠99∧mx=none ∧
      match ev σ x with
      | .ref id sz off len =>
        match σ.objs[id]? with
        | some (.arr sz' rows) =>
          sz'=sz∧sz=(ty P (ty P t).elem).size ∧
          match lo.map (ev σ),hi.map (ev σ) with
          | none,none=>K (σ.put dst (.ref id sz off len))
          | some (.lit (.int _ l)),none=>(0≤l∧l≤len∧rows.length=rows.length)∧K (σ.put dst (.ref id sz (off+l.toNat) (len - l.toNat)))
          | none,some (.lit (.int _ h))=>(0≤h∧h≤len)∧K (σ.put dst (.ref id sz off h.toNat))
          | some (.lit (.int _ l)),some (.lit (.int _ h))=>(0≤l∧l≤h∧h≤len)∧K (σ.put dst (.ref id sz (off+l.toNat) (h.toNat - l.toNat)))
          | _,_=>False
        | _=>False
      | .tree sz rows =>
          (rows≠[]→sz=(ty P (ty P t).elem).size) ∧
          match lo.map (ev σ),hi.map (ev σ) with
          | none,none=>K (σ.put dst (.tree sz rows))
          | some (.lit (.int _ l)),none=>(0≤l∧l≤rows.length)∧K (σ.put dst (.tree sz (rows.drop l.toNat)))
          | none,some (.lit (.int _ h))=>(0≤h∧h≤rows.length)∧K (σ.put dst (.tree sz (rows.take h.toNat)))
          | some (.lit (.int _ l)),some (.lit (.int _ h))=>(0≤l∧l≤h∧h≤rows.length)∧K (σ.put dst (.tree sz ((rows.take h.toNat).drop l.toNat)))
          | _,_=>False
      | _=>False):=by unfold opG opW;rfl
theorem opG_field (s:TypeId) (x:Operand) (f:Nat):opG P ⟨dst,.field s x f,tt,p,af,g⟩ σ K =
    (match (ty P s).kind,(ty P s).flds[f]? with
      | 3,some (off,t,size) =>
        (ty P t).kind≠99∧size=(ty P t).size ∧
        match ev σ x with
        | .agg cs=>if (ty P t).isAgg then off+size≤cs.length∧K (σ.put dst (.agg ((cs.drop off).take size))) else
            match cs[off]? with
            | some v=>K (σ.put dst v)
            | none=>False
        | _=>False
      | _,_=>False):=by unfold opG opW;rfl
theorem opG_makeMap (t:TypeId) (r:Option Operand):opG P ⟨dst,.makeMap t r,tt,p,af,g⟩ σ K =
    ((r=none∧(ty P t).kind=8)∧K (({ σ with objs:=σ.objs++[.mp (kAg P t) []] }:St).put dst (.mref σ.objs.length))):=by unfold opG opW;rfl
theorem opG_lookup (t:TypeId) (x i:Operand) (ok:Bool):opG P ⟨dst,.lookup t x i ok,tt,p,af,g⟩ σ K =
    (match keyOf (ev σ i),mpOf σ (ev σ x),zeroV P (ty P t).elem with
      | some (ag,l),some (_,ag',L),some z=>(KeyM P t ag∧ag'=ag∧l.length=kLen ag∧(ty P t).kind=8∧ok=false)∧K (σ.put dst ((getA l L).getD (.lit z)))
      | _,_,_=>False):=by unfold opG opW;rfl
theorem opG_mapUpdate (t:TypeId) (m k x:Operand):opG P ⟨dst,.mapUpdate t m k x,tt,p,af,g⟩ σ K =
    (match keyOf (ev σ k),mpOf σ (ev σ m) with
      | some (ag,l),some (id,ag',L)=>(KeyM P t ag∧ag'=ag∧l.length=kLen ag)∧K (({ σ with objs:=σ.objs.set id (.mp ag (setA l (ev σ x) L)) }:St).put dst .undef)
      | _,_=>False):=by unfold opG opW;rfl
theorem opG_mapEntry (t:TypeId) (m k:Operand):opG P ⟨dst,.mapEntry t m k,tt,p,af,g⟩ σ K =
    (match keyOf (ev σ k),mpOf σ (ev σ m),zeroV P (ty P t).elem with
      | some (ag,l),some (id,ag',L),some z=>(KeyM P t ag∧ag'=ag∧l.length=kLen ag∧(ty P t).kind=8) ∧
        K (({ σ with objs:=σ.objs.set id (.mp ag (setA l ((getA l L).getD (.lit z)) L)) }:St).put dst (.tup [(getA l L).getD (.lit z),.lit (.int .i64 (idxA l L:Nat))]))
      | _,_,_=>False):=by unfold opG opW;rfl
theorem opG_entryStore (t:TypeId) (m s x:Operand):opG P ⟨dst,.entryStore t m s x,tt,p,af,g⟩ σ K =
    (match ev σ s,mpOf σ (ev σ m) with
      | .lit (.int .i64 n),some (id,ag,L)=>(0≤n∧n<L.length)∧K (({ σ with objs:=σ.objs.set id (.mp ag (putA n.toNat (ev σ x) L)) }:St).put dst .undef)
      | _,_=>False):=by unfold opG opW;rfl
theorem opG_makeInterface (t:TypeId) (x:Operand):opG P ⟨dst,.makeInterface t x,tt,p,af,g⟩ σ K =
    (ifaceB P t=false∧K (σ.put dst (.ifc t (ev σ x)))):=by unfold opG opW;rfl
theorem opG_typeAssert (x:Operand) (xt asserted:TypeId) (ok:Bool):opG P ⟨dst,.typeAssert x xt asserted ok,tt,p,af,g⟩ σ K =
    (match ev σ x with
      | .ifc t v=>(ifaceB P asserted=false∧t=asserted∧ok=false)∧K (σ.put dst v)
      | _=>False):=by unfold opG opW;rfl
theorem opG_extract (x:Operand) (i:Nat):opG P ⟨dst,.extract x i,tt,p,af,g⟩ σ K =
    (match ev σ x with
      | .tup vs =>
        match vs[i]? with
        | some v=>K (σ.put dst v)
        | none=>False
      | _=>False):=by unfold opG opW;rfl
theorem opG_b_len (args:Array Operand) (argTypes:Array TypeId):opG P ⟨dst,.call ⟨.builtin .len,args,argTypes⟩,tt,p,af,g⟩ σ K =
    (match args.toList,argTypes.toList with
      | [x],[t] =>
        match ev σ x with
        | .ref id sz _ len =>
          (ty P t).kind=1 ∧
          match σ.objs[id]? with
          | some (.arr sz' _)=>sz'=sz∧K (σ.put dst (.lit (.int .i64 len)))
          | _=>False
        | .tree _ rows=>(ty P t).kind=1∧K (σ.put dst (.lit (.int .i64 rows.length)))
        | .lit (.slice none 0 0)=>(ty P t).kind=1∧K (σ.put dst (.lit (.int .i64 0)))
        | .mref id =>
          (ty P t).kind=8 ∧
          match σ.objs[id]? with
          | some (.mp _ L)=>K (σ.put dst (.lit (.int .i64 L.length)))
          | _=>False
        | _=>False
      | _,_=>False):=by unfold opG opW;rfl
theorem opG_b_append (args:Array Operand) (argTypes:Array TypeId):opG P ⟨dst,.call ⟨.builtin .append,args,argTypes⟩,tt,p,af,g⟩ σ K =
    (match args.toList,argTypes.toList with
      | [s,x],[t,t'] =>
        match (ty P t).kind,(ty P (ty P t).elem).zero,dstRows σ (ty P (ty P t).elem).size (ev σ s),srcRows σ (ev σ x) with
        | 1,some z,some (pre,σ1),some (sz,src) =>
          (t'=t∧(ty P (ty P t).elem).kind≠99∧sz=(ty P (ty P t).elem).size∧0<sz∧z.length=sz∧pre.length+src.length≤549755813888∧(ty P (ty P t).elem).bytes≤128∧(src.all fun row=>row.all scal)=true) ∧
            K (({ σ1 with objs:=σ1.objs++[.arr sz (pre++src)] }:St).put dst (.ref σ1.objs.length sz 0 (pre.length+src.length)))
        | _,_,_,_=>False
      | _,_=>False):=by unfold opG opW;rfl
theorem opG_b_min (args:Array Operand) (argTypes:Array TypeId):opG P ⟨dst,.call ⟨.builtin .min,args,argTypes⟩,tt,p,af,g⟩ σ K =
    (match args.toList with
      | [x,y] =>
        match ev σ x,ev σ y with
        | .lit (.int k a),.lit (.int k' b)=>k=k'∧K (σ.put dst (.lit (.int k (min a b))))
        | _,_=>False
      | _=>False):=by unfold opG opW;rfl
theorem opG_b_max (args:Array Operand) (argTypes:Array TypeId):opG P ⟨dst,.call ⟨.builtin .max,args,argTypes⟩,tt,p,af,g⟩ σ K =
    (match args.toList with
      | [x,y] =>
        match ev σ x,ev σ y with
        | .lit (.int k a),.lit (.int k' b)=>k=k'∧K (σ.put dst (.lit (.int k (max a b))))
        | _,_=>False
      | _=>False):=by unfold opG opW;rfl
theorem opG_b_copy (args:Array Operand) (argTypes:Array TypeId):opG P ⟨dst,.call ⟨.builtin .copy,args,argTypes⟩,tt,p,af,g⟩ σ K =
    (match args.toList,argTypes.toList with
      | [s,x],[t,_] =>
        match ev σ s,srcRows σ (ev σ x) with
        | .ref id sz off len,some (sz',src) =>
          match σ.objs[id]? with
          | some (.arr sz'' rows) =>
            ((ty P t).kind=1∧(ty P (ty P t).elem).kind≠99∧sz'=sz∧sz''=sz∧sz=(ty P (ty P t).elem).size∧0<sz∧(src.all fun row=>row.all scal)=true) ∧
              K (({ σ with objs:=σ.objs.set id (.arr sz (rows.take off++src.take (min src.length len)++rows.drop (off+min src.length len))) }:St).put dst (.lit (.int .i64 (min src.length len:Nat))))
          | _=>False
        | _,_=>False
      | _,_=>False):=by unfold opG opW;rfl
theorem opG_convert (s d:TypeId) (x:Operand):opG P ⟨dst,.convert s d x,tt,p,af,g⟩ σ K =
    (match P.underlying d,ev σ x with
      | some (.int k),.lit (.int _ n)=>(P.underlying s).isSome=true∧K (σ.put dst (.lit (.int k (k.wrap n))))
      | _,_=>False):=by unfold opG opW;rfl
end Go.Am
namespace Go.Am
variable {P:Program} {N n0:Nat} {σ:St} {Q:Exit→St→Prop}
theorem RetOK_sel (sel:List Nat) (snap:Bool) {v res:AV} {objs':List Ob} (hnd:sel.Nodup) (ho:SelO (rho σ.objs.length sel) σ.objs sel objs') (hn:n0≤sel.length) (hid:∀ i,i<n0→sel.getD i 0=i)
    (h:ArgR σ (kept sel objs') (rho σ.objs.length sel) snap res v):RetOK n0 σ v res objs':=by
  obtain ⟨h1,h2,h3⟩:=ho.spec
  exact⟨sel,snap,hnd,h1,h2,h3,hn,hid,h⟩
theorem RetOK_all {e:Nat→AV} {os:List Ob} {v res:AV} {objs':List Ob} (ho:os=objs') (hn:n0≤objs'.length) (h:v=res):RetOK n0 ⟨e,os⟩ v res objs':=by
  subst ho;subst h
  let σ:St:=⟨e,os⟩
  show RetOK n0 σ v v σ.objs
  have hn:n0≤σ.objs.length:=hn
  refine⟨List.range σ.objs.length,false,List.nodup_range,by simp,fun j o hj=>.inr ?_,by simp,by simpa using hn,fun i hi=>?_,?_⟩
  · have hlt:=(List.getElem?_eq_some_iff.1 hj).1
    rw[rho_id,renO_id]
    simpa [List.getD_eq_getElem?_getD,List.getElem?_range hlt] using hj
  · have:i<σ.objs.length:=by omega
    simp[List.getD_eq_getElem?_getD,List.getElem?_range this]
  · exact .eq (by rw[rho_id,ren_id])
end Go.Am
namespace Go.Am
variable {P:Program} {N n0:Nat} {σ:St} {Q:Exit→St→Prop}
theorem not_kept {sel:List Nat} {co:List Ob} {id:Nat} (h:id ∉ sel):¬ kept sel co id:=by
  rintro ⟨j,hj,he,_⟩
  apply h
  rw[← he,List.getD_eq_getElem?_getD,List.getElem?_eq_getElem hj]
  exact List.getElem_mem hj
def SelX (ρ:Nat→Nat) (os:List Ob):List Nat→List Ob→Prop
  | [],[]=>True
  | i::sel,o::co=>os[i]?=some (renO ρ o)∧SelX ρ os sel co
  | _,_=>False
theorem SelX.spec {ρ:Nat→Nat} {os:List Ob}:∀ {sel:List Nat} {co:List Ob},SelX ρ os sel co→co.length=sel.length∧∀ (j:Nat) o,co[j]?=some o→os[sel.getD j 0]?=some (renO ρ o)
  | [],[],_=>⟨rfl,by simp⟩
  | i::sel,o::co,h=>by
    obtain ⟨h1,h3⟩:=h
    obtain ⟨a,b⟩:=SelX.spec h3
    refine⟨by simp[a],fun j o' hj=>?_⟩
    cases j with
    | zero=>simp at hj;subst hj;simpa using h1
    | succ j=>simpa using b j o' (by simpa using hj)
def ArgsR (R:AV→AV→Prop):List AV→List AV→Prop
  | [],[]=>True
  | c::cs,d::ds=>R c d∧ArgsR R cs ds
  | _,_=>False
theorem ArgsR.spec {R:AV→AV→Prop}:∀ {cs ds:List AV},ArgsR R cs ds→cs.length=ds.length∧∀ (j:Nat) c d,cs[j]?=some c→ds[j]?=some d→R c d
  | [],[],_=>⟨rfl,by simp⟩
  | c::cs,d::ds,h=>by
    obtain ⟨a,b⟩:=ArgsR.spec h.2
    refine⟨by simp[a],fun j c' d' hc hd=>?_⟩
    cases j with
    | zero=>simp at hc hd;subst hc;subst hd;exact h.1
    | succ j=>exact b j c' d' (by simpa using hc) (by simpa using hd)
theorem ArgR.tup2 {kp:Nat→Prop} {ρ:Nat→Nat} {snap:Bool} {a b c d:AV} (h:ArgR σ kp ρ snap a c) (k:ArgR σ kp ρ snap b d):ArgR σ kp ρ snap (.tup [a,b]) (.tup [c,d]) :=
  .tup _ _ rfl (ArgsR.spec (R:=ArgR σ kp ρ snap) (cs:=[a,b]) (ds:=[c,d]) ⟨h,k,trivial⟩).2
theorem callK_sel (sel:List Nat) {f:FuncId} {args cargs:List AV} {cobjs:List Ob} {dst:Option Tmp} {K:St→Prop} {res:AV} {cobjs':List Ob} (h:Holds P f cargs cobjs res cobjs') (hnd:sel.Nodup)
    (ho:SelX (rho σ.objs.length sel) σ.objs sel cobjs) (ha:ArgsR (ArgR σ (·∈sel) (rho σ.objs.length sel) false) cargs args)
    (hK:K (({ σ with objs:=mergeO σ.objs sel (cobjs'.map (renO (rho σ.objs.length sel))) }:St).put dst (ren (rho σ.objs.length sel) res))):callK P f args dst K σ:=by
  obtain ⟨h1,h2⟩:=ho.spec
  obtain ⟨h3,h4⟩:=ha.spec
  exact⟨sel,false,cargs,cobjs,res,cobjs',h,⟨hnd,h1,h2,h3,h4,by simp⟩,hK⟩
theorem callK_snap (sel:List Nat) {f:FuncId} {args cargs:List AV} {cobjs:List Ob} {dst:Option Tmp} {K:St→Prop} {res:AV} {cobjs':List Ob} (h:Holds P f cargs cobjs res cobjs') (hnd:sel.Nodup)
    (ho:SelX (rho σ.objs.length sel) σ.objs sel cobjs) (ha:ArgsR (ArgR σ (·∈sel) (rho σ.objs.length sel) true) cargs args) (hf:flat res=true) (hfo:∀ o∈cobjs',flatO o)
    (hK:K (({ σ with objs:=mergeO σ.objs sel (cobjs'.map (renO (rho σ.objs.length sel))) }:St).put dst (ren (rho σ.objs.length sel) res))):callK P f args dst K σ:=by
  obtain ⟨h1,h2⟩:=ho.spec
  obtain ⟨h3,h4⟩:=ha.spec
  exact⟨sel,true,cargs,cobjs,res,cobjs',h,⟨hnd,h1,h2,h3,h4,fun _=>⟨hf,hfo⟩⟩,hK⟩
theorem renO_var {ρ:Nat→Nat} (cs:List AV):renO ρ (.var cs)=.var (cs.map (ren ρ)):=by simp only[renO]
theorem renO_gone' {ρ:Nat→Nat}:renO ρ .gone=.gone:=by simp only[renO]
theorem range1:List.range 1=[0]:=by decide
theorem range2:List.range 2=[0,1]:=by decide
theorem range3:List.range 3=[0,1,2]:=by decide
theorem ints_take (xs:List Int):(ints xs).take xs.length=ints xs:=by rw[List.take_of_length_le (by simp[ints])]
theorem bools_take (xs:List Bool):(bools xs).take xs.length=bools xs:=by rw[List.take_of_length_le (by simp[bools])]
theorem intss_take (xs:List (List Int)):(intss xs).take xs.length=intss xs:=by rw[List.take_of_length_le (by simp[intss])]
theorem join_here {y:Code} {Q0 Q1:Exit→St→Prop} {G:Prop} (S0:St) (hn:∀ s,W P N n0 y Q0 s→Q1 .normal s) (hm:W P N n0 y Q0 S0) (h:(∀ s,Turns n0 s S0→Q1 .normal s)→G):G :=
  h fun s ht=>hn s (W_turn ht hm)
end Go.Am
namespace Go.Am
variable {P:Program} {N n0:Nat} {σ:St} {Q:Exit→St→Prop}
def nextQ (P:Program) (ops:Array Oper) (Q:Exit→Act→World→Prop) (js:List Nat):Exit→Act→World→Prop
  | .normal,a,w=>wpOps P ops Q js a w
  | e,a,w=>Q e a w
theorem Oper.wp_monoQ {o:Oper} {a:Act} {w:World} {K:Act→World→Prop} {Q Q':Exit→Act→World→Prop} (hq:∀ e a w,e≠.normal→Q e a w→Q' e a w) (hl:LetsOut Q→LetsOut Q')
    (hh:o.wp P a w K Q):o.wp P a w K Q':=by
  unfold Oper.wp at *
  generalize (execOp a.eval o).run P w=r at *
  cases r with
  | ok n w' =>
    cases n<;>simp only[Oper.upon] at hh⊢<;>
      first
        | exact hh
        | exact Calls.mono hh (fun e w'' he=>by
            cases e with
            | returned v=>exact he
            | panicked c=>exact hq _ _ _ (by simp) he
            | outgrown=>exact hl he)
  | halt x w'=>cases x<;>simp only[Oper.upon] at hh ⊢<;>first|exact hh|exact hq _ _ _ (by simp) hh
theorem wpOps_app {ops:Array Oper} {Q:Exit→Act→World→Prop} {js:List Nat}:∀ (is:List Nat) (a:Act) (w:World),wpOps P ops (nextQ P ops Q js) is a w→wpOps P ops Q (is++js) a w
  | [],a,w,h=>h
  | i::is,a,w,h=>by
    rw[List.cons_append,wpOps_cons]
    rw[wpOps_cons] at h
    have hl:LetsOut (nextQ P ops Q js)→LetsOut Q:=fun h=>h
    unfold wpOp at h ⊢
    cases ho:ops[i]? with
    | none=>simp only[ho] at h ⊢;exact wpOps_app is a w h
    | some o =>
      simp only[ho] at h ⊢
      by_cases hw:Region.wanted o (yielded ops a.tmps)=true
      · rw[if_pos hw] at h ⊢
        rcases h with h | ⟨h1,h2⟩
        · left
          exact Oper.wp_monoQ (fun e a w he hq=>by cases e<;>first|exact absurd rfl he|exact hq) hl (Oper.wp_mono (fun a w=>wpOps_app is a w) h)
        · exact .inr ⟨h1,hl h2⟩
      · rw[if_neg hw] at h ⊢
        exact wpOps_app is _ w h
theorem opsL_soundP {N:Nat} {os:List Ob} {γ0:Cx} {ops:Array Oper} (hd:∀ o∈ops.toList,∀ d,o.dst=some d→d<N) {K:St→Prop} {Q:Exit→Act→World→Prop}
    (hQ:∀ σ' a' w',K σ'→Okay N os γ0 σ' a' w'→Q .normal a' w'):∀ (l:List Oper) (i:Nat) (σ:St) (a:Act) (w:World),(∀ k,k<l.length→ops[i+k]?=l[k]?)→opsL P ops l K σ→Okay N os γ0 σ a w →
      wpOps P ops Q (List.range' i l.length) a w
  | [],i,σ,a,w,_,h,hok=>by simpa [wpOps] using hQ _ _ _ h hok
  | o::r,i,σ,a,w,hl,h,hok=>by
    have hi:ops[i]?=some o:=by simpa using hl 0 (by simp)
    have hr:∀ k,k<r.length→ops[i+1+k]?=r[k]?:=fun k hk=>by
      have:=hl (k+1) (by simpa using hk)
      rw[show i+1+k=i+(k+1) by omega,this];simp
    have hmem:o∈ops.toList:=List.mem_of_getElem? (by simpa using hi)
    rw[List.length_cons,List.range'_succ,wpOps_cons]
    unfold wpOp
    simp only[hi]
    unfold opsL at h
    cases hg:o.guard with
    | none =>
      simp only[hg] at h
      have hw:Region.wanted o (yielded ops a.tmps)=true:=by simp[Region.wanted,hg]
      rw[if_pos hw]
      left
      exact opG_sound h hok (hd o hmem) (fun σ' a' w' hK hok'=>opsL_soundP hd hQ r (i+1) σ' a' w' hr hK hok')
    | some jw =>
      obtain ⟨j,want⟩:=jw
      simp only[hg] at h
      cases hdj:(ops[j]?).bind (·.dst) with
      | none=>simp[hdj] at h
      | some d =>
        simp only[hdj] at h
        split at h
        · rename_i b he
          obtain ⟨hdf,hsz,γ,rfl,ha,hs,hf⟩:=hok
          have hslot:=hs.slots d
          rw[he,ha] at hslot
          have hv:=hslot.lit_inv
          have hy:yielded ops a.tmps j=some b:=by
            unfold yielded
            rw[hdj]
            have:a.tmps[d]?=some (.bool b):=by
              rw[Array.getD_eq_getD_getElem?] at hv
              cases hx:a.tmps[d]? with
              | none=>rw[hx] at hv;simp[Go.undef] at hv
              | some y=>rw[hx] at hv;simp at hv;rw[hv]
            simp[this]
          by_cases hbw:b=want
          · have hw:Region.wanted o (yielded ops a.tmps)=true:=by simp[Region.wanted,hg,hy,hbw]
            rw[if_pos hw]
            left
            exact opG_sound (h.1 hbw) ⟨hdf,hsz,γ,rfl,ha,hs,hf⟩ (hd o hmem) (fun σ' a' w' hK hok'=>opsL_soundP hd hQ r (i+1) σ' a' w' hr hK hok')
          · have hw:Region.wanted o (yielded ops a.tmps)=false:=by simp[Region.wanted,hg,hy,hbw]
            rw[if_neg (by rw[hw];simp)]
            refine opsL_soundP hd hQ r (i+1) _ _ _ hr (h.2 hbw) ⟨by rw[put_defers];exact hdf,by rw[put_size];exact hsz,{ γ with tmps:=(a.put o.dst Go.undef).tmps },rfl,rfl,put_sim hs ha (fun d h=>by rw[hsz];exact hd o hmem d h) (.lit _),?_⟩
            rw[objs_put];exact hf.put _
        · rename_i vs he
          obtain ⟨hdf,hsz,γ,rfl,ha,hs,hf⟩:=hok
          have hslot:=hs.slots d
          rw[he,ha] at hslot
          have hv:=hslot.lit_inv
          have hy:yielded ops a.tmps j=none:=by
            unfold yielded
            rw[hdj]
            rw[Array.getD_eq_getD_getElem?] at hv
            cases hx:a.tmps[d]? with
            | none=>simp[hx]
            | some y=>rw[hx] at hv;simp at hv;subst hv;simp[hx]
          have hw:Region.wanted o (yielded ops a.tmps)=false:=by simp[Region.wanted,hg,hy]
          rw[if_neg (by rw[hw];simp)]
          refine opsL_soundP hd hQ r (i+1) _ _ _ hr h.2 ⟨by rw[put_defers];exact hdf,by rw[put_size];exact hsz,{ γ with tmps:=(a.put o.dst Go.undef).tmps },rfl,rfl,put_sim hs ha (fun d h=>by rw[hsz];exact hd o hmem d h) (.lit _),?_⟩
          rw[objs_put];exact hf.put _
        · exact h.elim
theorem opsL_soundT {os:List Ob} {γ0:Cx} {ops:Array Oper} (hd:∀ o∈ops.toList,∀ d,o.dst=some d→d<N) {K K1:St→Prop} {Q:Exit→Act→World→Prop} (hn:os.length=n0)
    (hQ:∀ σ' a' w',K σ'→Okay N os γ0 σ' a' w'→Q .normal a' w') (n:Nat) (hK:∀ s,K1 s→∃ s1,Turns n0 s s1∧opsL P ops (ops.toList.drop n) K s1) (σ:St) (a:Act) (w:World)
    (h:opsL P ops (ops.toList.take n) K1 σ) (hok:Okay N os γ0 σ a w):wpOps P ops Q (List.range ops.size) a w:=by
  have e:List.range ops.size=List.range' 0 (ops.toList.take n).length++List.range' (ops.toList.take n).length (ops.toList.drop n).length:=by
    rw[List.range_eq_range']
    have:=List.range'_append (s:=0) (m:=(ops.toList.take n).length) (n:=(ops.toList.drop n).length) (step:=1)
    simp only[Nat.zero_add,Nat.one_mul] at this
    rw[this]
    congr 1
    rw[← List.length_append,List.take_append_drop];simp
  rw[e]
  refine wpOps_app _ a w ?_
  refine opsL_soundP hd (K:=K1) (fun σ' a' w' hk hok'=>?_) (ops.toList.take n) 0 σ a w (fun k hk=>?_) h hok
  · obtain ⟨s1,ht,ho⟩:=hK σ' hk
    obtain ⟨h1,h2,γ,rfl,h3,h4,h5⟩:=hok'
    obtain ⟨γ',e1,e2,e3,e4⟩:=ht os γ0 γ hn h4 h5
    refine opsL_soundP hd hQ (ops.toList.drop n) _ s1 a' γ.w (fun k hk=>?_) ho ⟨h1,h2,γ',e1,e2.trans h3,e3,e4⟩
    rw[List.getElem?_drop]
    simp only[List.length_drop,Array.length_toList] at hk
    rw[List.length_take,Array.length_toList,Nat.min_eq_left (by omega)]
    simp
  · simp only[List.length_take,Array.length_toList] at hk
    rw[List.getElem?_take_of_lt (by omega)]
    simp
end Go.Am
namespace Go.Am
variable {σ:St}
def RowsR (R:AV→AV→Prop):List (List AV)→List (List AV)→Prop
  | [],[]=>True
  | c::cs,d::ds=>ArgsR R c d∧RowsR R cs ds
  | _,_=>False
theorem RowsR.spec {R:AV→AV→Prop}:∀ {cs ds:List (List AV)},RowsR R cs ds→cs.length=ds.length∧∀ (r c:Nat) v,cellAt cs r c=some v→cellAt ds r c=some ((cellAt ds r c).getD .undef)∧R v ((cellAt ds r c).getD .undef)
  | [],[],_=>⟨rfl,by simp[cellAt]⟩
  | c::cs,d::ds,h=>by
    obtain ⟨a,b⟩:=RowsR.spec h.2
    refine⟨by simp[a],fun r j v hv=>?_⟩
    cases r with
    | zero =>
      simp only[cellAt,List.getElem?_cons_zero,Option.bind_some] at hv ⊢
      obtain ⟨e1,e2⟩:=h.1.spec
      have hj:j<d.length:=by rw[← e1];exact (List.getElem?_eq_some_iff.1 hv).1
      rw[List.getElem?_eq_getElem hj]
      exact⟨rfl,e2 j v _ hv (List.getElem?_eq_getElem hj)⟩
    | succ r =>
      have:=b r j v (by simpa [cellAt] using hv)
      simpa [cellAt] using this
theorem Frz.mk {kp:Nat→Prop} {id sz len:Nat} {rows rows':List (List AV)} (ho:σ.objs[id]?=some (.arr sz rows)) (hl:len=rows.length) (hsel:¬ kp id) (hw:∀ row∈rows',row.length=sz) (h:RowsR (Frz σ kp) rows' rows):Frz σ kp (.tree sz rows') (.ref id sz 0 len):=by
  obtain ⟨a,b⟩:=h.spec
  subst hl
  refine .ref id sz 0 rows.length rows rows' (fun r c=>(cellAt rows r c).getD .undef) ho hsel (by simp[a]) hw (fun r c v hv=>?_) (fun r c v hv=>?_)
  · simpa using (b r c v hv).1
  · exact (b r c v hv).2
end Go.Am

