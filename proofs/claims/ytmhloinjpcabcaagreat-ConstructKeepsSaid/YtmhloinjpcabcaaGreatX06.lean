import Derived.Test.YtmhloinjpcabcaaGreatX05
set_option linter.unusedVariables false
set_option linter.unusedSimpArgs false
set_option linter.unnecessarySimpa false
set_option linter.unusedSectionVars false
set_option maxHeartbeats 64000000
set_option maxRecDepth 20000
namespace Go.Am
variable {P:Program}
def callQ (P:Program) (g:FuncId) (args:List AV) (dst:Option Tmp) (K:St→Prop) (σ:St):Prop :=
  ∃ res,Holds P g args [] res []∧noRefL args=true∧noRef res=true∧K (σ.put dst res)
def loadQ (P:Program) (t:TypeId) (dst:Option Tmp) (K:St→Prop) (σ:St):AV→Prop
  | .taddr cells=>(ty P t).kind≠99∧loadA (ty P t) cells 0 fun v=>K (σ.put dst v)
  | _=>False
def opGm (q:Bool) (P:Program) (o:Oper) (σ:St) (K:St→Prop):Prop :=
  match q with
  | false=>opG P o σ K
  | true =>
    match o.op with
    | .call { callee:=.value f,args,.. } =>
      match ev σ f with
      | .fn g caps=>callQ P g (args.toList.map (ev σ)++caps) o.dst K σ
      | _=>False
    | .load t a=>loadQ P t o.dst K σ (ev σ a)
    | _=>False
theorem loadQ_opG {o:Oper} {σ:St} {K:St→Prop} {t:TypeId} {a:Operand} (hop:o.op=.load t a) (h:loadQ P t o.dst K σ (ev σ a)):opG P o σ K:=by
  unfold opG
  simp only[hop]
  unfold opW
  simp only[hop]
  unfold loadQ at h
  split at h
  · rename_i cells he
    simp only[he]
    exact h
  · exact h.elim
theorem loadQ_det {t:TypeId} {dst:Option Tmp} {K:St→Prop} {σ:St} {v:AV} (h:loadQ P t dst K σ v) :∃x,K (σ.put dst x)∧∀ (σ2:St) (K2:St→Prop),K2 (σ2.put dst x)→loadQ P t dst K2 σ2 v:=by
  unfold loadQ at h
  split at h
  · rename_i cells
    obtain ⟨h1,h2⟩:=h
    unfold loadA at h2
    split at h2
    · rename_i ha
      refine⟨_,h2.2,fun σ2 K2 hK=>?_⟩
      unfold loadQ loadA
      simp only
      rw[if_pos ha]
      exact⟨h1,h2.1,hK⟩
    · rename_i ha
      split at h2
      · rename_i x hx
        refine⟨x,h2,fun σ2 K2 hK=>?_⟩
        unfold loadQ loadA
        simp only
        rw[if_neg ha,hx]
        exact⟨h1,hK⟩
      · exact h2.elim
  · exact h.elim
def guardM (q:Bool) (P:Program) (o:Oper) (K:St→Prop) (b want:Bool) (σ:St):Prop:=(b=want→opGm q P o σ K)∧(b≠want→K (σ.put o.dst (.lit (.tuple #[]))))
def stepD (P:Program) (ops:Array Oper) (q:Bool) (o:Oper) (K:St→Prop) (σ:St):Prop :=
  match o.guard with
  | none=>opGm q P o σ K
  | some (j,want) =>
    match (ops[j]?).bind (·.dst) with
    | none=>False
    | some d =>
      match σ.env d with
      | .lit (.bool b)=>guardM q P o K b want σ
      | .lit (.tuple vs)=>vs = #[]∧K (σ.put o.dst (.lit (.tuple #[])))
      | _=>False
theorem opGm_opG {q:Bool} {o:Oper} {σ:St} {K:St→Prop} (h:opGm q P o σ K):opG P o σ K:=by
  cases q with
  | false=>exact h
  | true =>
    unfold opGm at h
    simp only at h
    unfold opG
    split at h
    · rename_i f args ats hop
      simp only[hop]
      split at h
      · rename_i g caps he
        simp only[he]
        obtain ⟨res,h1,h2,h3,h4⟩:=h
        exact callK_pure h1 h2 h3 h4
      · exact h.elim
    · rename_i t a hop
      have:=loadQ_opG hop h
      unfold opG at this
      simpa only[hop] using this
    · exact h.elim
theorem stepD_sound {N:Nat} {os:List Ob} {γ0:Cx} {ops:Array Oper} (hd:∀ o∈ops.toList,∀ d,o.dst=some d→d<N) {q:Bool} {i:Nat} {o:Oper} (hi:ops[i]?=some o) {σ:St} {K:St→Prop}
    (h:stepD P ops q o K σ) {a:Act} {w:World} (hok:Okay N os γ0 σ a w) {Q:Exit→Act→World→Prop} {next:Act→World→Prop} (hn:∀ σ' a' w',K σ'→Okay N os γ0 σ' a' w'→next a' w'):wpOp P ops Q i next a w:=by
  have hmem:o∈ops.toList:=List.mem_of_getElem? (by simpa using hi)
  unfold wpOp
  simp only[hi]
  unfold stepD at h
  cases hg:o.guard with
  | none =>
    simp only[hg] at h
    have hw:Region.wanted o (yielded ops a.tmps)=true:=by simp[Region.wanted,hg]
    rw[if_pos hw]
    left
    exact opG_sound (opGm_opG h) hok (hd o hmem) hn
  | some jw =>
    obtain ⟨j,want⟩:=jw
    simp only[hg] at h
    cases hdj:(ops[j]?).bind (·.dst) with
    | none=>simp[hdj] at h
    | some d =>
      simp only[hdj] at h
      split at h
      · rename_i b he
        obtain ⟨hdf,hsz,γ,rfl,ha,hs,hf⟩:=hok
        have hslot:=hs.slots d
        rw[he,ha] at hslot
        have hv:=hslot.lit_inv
        have hy:yielded ops a.tmps j=some b:=by
          unfold yielded
          rw[hdj]
          have:a.tmps[d]?=some (.bool b):=by
            rw[Array.getD_eq_getD_getElem?] at hv
            cases hx:a.tmps[d]? with
            | none=>rw[hx] at hv;simp[Go.undef] at hv
            | some y=>rw[hx] at hv;simp at hv;rw[hv]
          simp[this]
        by_cases hbw:b=want
        · have hw:Region.wanted o (yielded ops a.tmps)=true:=by simp[Region.wanted,hg,hy,hbw]
          rw[if_pos hw]
          left
          exact opG_sound (opGm_opG (h.1 hbw)) ⟨hdf,hsz,γ,rfl,ha,hs,hf⟩ (hd o hmem) hn
        · have hw:Region.wanted o (yielded ops a.tmps)=false:=by simp[Region.wanted,hg,hy,hbw]
          rw[if_neg (by rw[hw];simp)]
          refine hn _ _ _ (h.2 hbw) ⟨by rw[put_defers];exact hdf,by rw[put_size];exact hsz,{ γ with tmps:=(a.put o.dst Go.undef).tmps },rfl,rfl,put_sim hs ha (fun d h=>by rw[hsz];exact hd o hmem d h) (.lit _),?_⟩
          rw[objs_put];exact hf.put _
      · rename_i vs he
        obtain ⟨hdf,hsz,γ,rfl,ha,hs,hf⟩:=hok
        have hslot:=hs.slots d
        rw[he,ha] at hslot
        have hv:=hslot.lit_inv
        have hy:yielded ops a.tmps j=none:=by
          unfold yielded
          rw[hdj]
          rw[Array.getD_eq_getD_getElem?] at hv
          cases hx:a.tmps[d]? with
          | none=>simp[hx]
          | some y=>rw[hx] at hv;simp at hv;subst hv;simp[hx]
        have hw:Region.wanted o (yielded ops a.tmps)=false:=by simp[Region.wanted,hg,hy]
        rw[if_neg (by rw[hw];simp)]
        refine hn _ _ _ h.2 ⟨by rw[put_defers];exact hdf,by rw[put_size];exact hsz,{ γ with tmps:=(a.put o.dst Go.undef).tmps },rfl,rfl,put_sim hs ha (fun d h=>by rw[hsz];exact hd o hmem d h) (.lit _),?_⟩
        rw[objs_put];exact hf.put _
      · exact h.elim
theorem eff_refl (c:Nat) (a:List Ob):Eff c a a:=by
  unfold Eff
  split
  · rfl
  · split
    · intro id _;rfl
    · split
      · exact⟨rfl,fun id o o' h h'=>by rw[h] at h';simp at h';subst h';exact sameK_refl o⟩
      · trivial
theorem Frz.objs {σ σ2:St} (h:σ2.objs=σ.objs) {kp:Nat→Prop} {c d:AV} (ha:Frz σ kp c d):Frz σ2 kp c d:=by
  induction ha with
  | lit x=>exact .lit x
  | tree s r=>exact .tree s r
  | nil sz=>exact .nil sz
  | ref id sz off len rows rows' g hob hsel hl0 hw0 hg1 hg2 ih=>exact .ref id sz off len rows rows' g (by rw[h];exact hob) hsel hl0 hw0 hg1 ih
theorem ArgR.objs {σ σ2:St} (h:σ2.objs=σ.objs) {kp:Nat→Prop} {ρ:Nat→Nat} {snap:Bool} {c d:AV} (ha:ArgR σ kp ρ snap c d):ArgR σ2 kp ρ snap c d:=by
  induction ha with
  | same v=>exact .same v
  | snap c d hs hf=>exact .snap c d hs (hf.objs h)
  | agg cs ds hl _ ih=>exact .agg cs ds hl ih
  | tup cs ds hl _ ih=>exact .tup cs ds hl ih
def clsQ (q:Bool) (o:Oper):Nat:=if q then 0 else cls o.op
theorem ev_looks {ops:Array Oper} {o:Oper} {σ:St} {e2:Nat→AV} {os:List Ob} (h:∀ t∈o.looksAt ops,e2 t=σ.env t):∀ x∈o.op.operands.toList,ev ⟨e2,os⟩ x=ev σ x:=by
  intro x hx
  cases x with
  | tmp t =>
    show e2 t=σ.env t
    refine h t ?_
    unfold Oper.looksAt
    rw[List.mem_append]
    left
    rw[List.mem_filterMap]
    exact⟨_,hx,rfl⟩
  | const v=>rfl
  | func f=>rfl
  | global g=>rfl
theorem recvK_det {σ:St} {v:AV} {K:FuncId→AV→Prop} {r:Option (FuncId × Option TypeId)} (h:recvK P σ v K r) :
    ∃ g x,K g x∧∀ (e2:Nat→AV) (K2:FuncId→AV→Prop),K2 g x→recvK P ⟨e2,σ.objs⟩ v K2 r:=by
  match r,h with
  | none,h=>exact h.elim
  | some (g,none),h=>exact⟨g,v,h,fun _ _ h=>h⟩
  | some (g,some e),h =>
    unfold recvK at h
    obtain ⟨hk,h⟩:=h
    cases v with
    | ptr id rr c =>
      simp only at h
      cases hrow:rowOf σ id rr with
      | none=>simp[hrow] at h
      | some row =>
        simp only[hrow] at h
        obtain ⟨x,h1,h2⟩:=loadA_det h
        refine⟨g,x,h1,fun e2 K2 hK=>?_⟩
        unfold recvK
        have:rowOf ⟨e2,σ.objs⟩ id rr=some row:=hrow
        simp only[this]
        exact⟨hk,h2 _ hK⟩
    | _=>exact h.elim
theorem opG_local {o:Oper} {σ:St} {K:St→Prop} (hW:opG P o σ K) :
    ∃ v os,Eff (cls o.op) σ.objs os∧K ((⟨σ.env,os⟩:St).put o.dst v)∧∀ (e2:Nat→AV) (K2:St→Prop),(∀ x∈o.op.operands.toList,ev ⟨e2,σ.objs⟩ x=ev σ x)→K2 ((⟨e2,os⟩:St).put o.dst v)→opG P o ⟨e2,σ.objs⟩ K2:=by
  unfold opG at hW ⊢
  split at hW
  · rename_i f args ats hop
    simp only[hop]
    split at hW
    · rename_i g caps he
      obtain ⟨sel,snap,cargs,cobjs,res,cobjs',h1,⟨h2,h3,h4,h5,h6,h7⟩,h8⟩:=hW
      refine⟨_,_,(by simp[Eff,cls]),h8,fun e2 K2 hx hK=>?_⟩
      have e1:ev ⟨e2,σ.objs⟩ f=.fn g caps:=by rw[← he];exact hx f (by simp[Op.operands,Call.operands])
      have e3:args.toList.map (ev ⟨e2,σ.objs⟩)=args.toList.map (ev σ):=List.map_congr_left fun y hy=>hx y (by simp only[Op.operands,Call.operands,Array.toList_append,List.mem_append];exact .inr hy)
      simp only[e1,e3]
      exact⟨sel,snap,cargs,cobjs,res,cobjs',h1,⟨h2,h3,h4,h5,fun j c d hc hd=>ArgR.objs (σ:=σ) (σ2:=⟨e2,σ.objs⟩) rfl (h6 j c d hc hd),h7⟩,hK⟩
    · exact hW.elim
  · rename_i r m args ats hop
    simp only[hop]
    split at hW
    · rename_i t v he
      obtain ⟨g,x,⟨sel,snap,cargs,cobjs,res,cobjs',h1,⟨h2,h3,h4,h5,h6,h7⟩,h8⟩,hdet⟩:=recvK_det hW
      refine⟨_,_,(by simp[Eff,cls]),h8,fun e2 K2 hx hK=>?_⟩
      have e1:ev ⟨e2,σ.objs⟩ r=.ifc t v:=by rw[← he];exact hx r (by simp[Op.operands,Call.operands])
      have e3:args.toList.map (ev ⟨e2,σ.objs⟩)=args.toList.map (ev σ):=List.map_congr_left fun y hy=>hx y (by simp only[Op.operands,Call.operands,Array.toList_append,List.mem_append];exact .inr hy)
      simp only[e1,e3]
      exact hdet e2 _ ⟨sel,snap,cargs,cobjs,res,cobjs',h1,⟨h2,h3,h4,h5,fun j c d hc hd=>ArgR.objs (σ:=σ) (σ2:=⟨e2,σ.objs⟩) rfl (h6 j c d hc hd),h7⟩,hK⟩
    · exact hW.elim
  · rename_i hne
    obtain ⟨v,os,h1,h2,h3⟩:=opW_local hW
    refine⟨v,os,h1,h2,fun e2 K2 hx hK=>?_⟩
    have:=h3 e2 K2 hx hK
    exact this
theorem opG_value {o:Oper} {σ:St} {K:St→Prop} (hc:cls o.op≤2) (hW:opG P o σ K) :
    ∃ v,K (σ.put o.dst v)∧∀ (σ2:St) (K2:St→Prop),(∀ x∈o.op.operands.toList,ev σ2 x=ev σ x)→(∀ (id:Nat),ObjC (cls o.op) σ.objs[id]? σ2.objs[id]?)→K2 (σ2.put o.dst v)→opG P o σ2 K2:=by
  unfold opG at hW ⊢
  split at hW
  · rename_i f args ats hop
    rw[hop] at hc
    simp[cls] at hc
  · rename_i r m args ats hop
    rw[hop] at hc
    simp[cls] at hc
  · rename_i hne
    obtain ⟨v,h2,h3⟩:=opW_value hc hW
    refine⟨v,h2,fun σ2 K2 hx ho hK=>?_⟩
    exact h3 σ2 K2 hx (fun x _ id _=>ho id) hK
theorem opGm_local {q:Bool} {o:Oper} {σ:St} {K:St→Prop} (hW:opGm q P o σ K) :
    ∃ v os,Eff (clsQ q o) σ.objs os∧K ((⟨σ.env,os⟩:St).put o.dst v)∧∀ (e2:Nat→AV) (K2:St→Prop),(∀ x∈o.op.operands.toList,ev ⟨e2,σ.objs⟩ x=ev σ x)→K2 ((⟨e2,os⟩:St).put o.dst v)→opGm q P o ⟨e2,σ.objs⟩ K2:=by
  cases q with
  | false=>exact opG_local hW
  | true =>
    unfold opGm at hW ⊢
    simp only at hW ⊢
    split at hW
    · rename_i f args ats hop
      simp only[hop]
      split at hW
      · rename_i g caps he
        obtain ⟨res,h1,h2,h3,h4⟩:=hW
        refine⟨res,σ.objs,eff_refl _ _,h4,fun e2 K2 hx hK=>?_⟩
        have e1:ev ⟨e2,σ.objs⟩ f=.fn g caps:=by rw[← he];exact hx f (by simp[Op.operands,Call.operands])
        have e3:args.toList.map (ev ⟨e2,σ.objs⟩)=args.toList.map (ev σ):=List.map_congr_left fun y hy=>hx y (by simp only[Op.operands,Call.operands,Array.toList_append,List.mem_append];exact .inr hy)
        simp only[e1,e3]
        exact⟨res,h1,h2,h3,hK⟩
      · exact hW.elim
    · rename_i t a hop
      obtain ⟨x,h1,h2⟩:=loadQ_det hW
      refine⟨x,σ.objs,eff_refl _ _,h1,fun e2 K2 hx hK=>?_⟩
      rw[hx a (by simp[hop,Op.operands])]
      exact h2 _ K2 hK
    · exact hW.elim
theorem opGm_value {q:Bool} {o:Oper} {σ:St} {K:St→Prop} (hc:clsQ q o≤2) (hW:opGm q P o σ K) :
    ∃ v,K (σ.put o.dst v)∧∀ (σ2:St) (K2:St→Prop),(∀ x∈o.op.operands.toList,ev σ2 x=ev σ x)→(∀ (id:Nat),ObjC (clsQ q o) σ.objs[id]? σ2.objs[id]?)→K2 (σ2.put o.dst v)→opGm q P o σ2 K2:=by
  cases q with
  | false=>exact opG_value hc hW
  | true =>
    unfold opGm at hW ⊢
    simp only at hW ⊢
    split at hW
    · rename_i f args ats hop
      simp only[hop]
      split at hW
      · rename_i g caps he
        obtain ⟨res,h1,h2,h3,h4⟩:=hW
        refine⟨res,h4,fun σ2 K2 hx _ hK=>?_⟩
        have e1:ev σ2 f=.fn g caps:=by rw[← he];exact hx f (by simp[Op.operands,Call.operands])
        have e3:args.toList.map (ev σ2)=args.toList.map (ev σ):=List.map_congr_left fun y hy=>hx y (by simp only[Op.operands,Call.operands,Array.toList_append,List.mem_append];exact .inr hy)
        simp only[e1,e3]
        exact⟨res,h1,h2,h3,hK⟩
      · exact hW.elim
    · rename_i t a hop
      obtain ⟨x,h1,h2⟩:=loadQ_det hW
      refine⟨x,h1,fun σ2 K2 hx _ hK=>?_⟩
      rw[hx a (by simp[hop,Op.operands])]
      exact h2 _ K2 hK
    · exact hW.elim
theorem guard_looks {ops:Array Oper} {o:Oper} {j d:Nat} {want:Bool} (hg:o.guard=some (j,want)) (hd:(ops[j]?).bind (·.dst)=some d):d∈o.looksAt ops:=by
  unfold Oper.looksAt
  rw[List.mem_append]
  right
  simp[hg,hd]
theorem stepD_local {ops:Array Oper} {q:Bool} {o:Oper} {σ:St} {K:St→Prop} (hW:stepD P ops q o K σ) :
    ∃ v os,Eff (clsQ q o) σ.objs os∧K ((⟨σ.env,os⟩:St).put o.dst v)∧∀ (e2:Nat→AV) (K2:St→Prop),(∀ t∈o.looksAt ops,e2 t=σ.env t)→K2 ((⟨e2,os⟩:St).put o.dst v)→stepD P ops q o K2 ⟨e2,σ.objs⟩:=by
  unfold stepD at hW ⊢
  cases hg:o.guard with
  | none =>
    simp only[hg] at hW
    obtain ⟨v,os,h1,h2,h3⟩:=opGm_local hW
    exact⟨v,os,h1,h2,fun e2 K2 hl hK=>h3 e2 K2 (ev_looks hl) hK⟩
  | some jw =>
    obtain ⟨j,want⟩:=jw
    simp only[hg] at hW
    cases hdj:(ops[j]?).bind (·.dst) with
    | none=>simp[hdj] at hW
    | some d =>
      simp only[hdj] at hW
      split at hW
      · rename_i b he
        by_cases hbw:b=want
        · obtain ⟨v,os,h1,h2,h3⟩:=opGm_local (hW.1 hbw)
          refine⟨v,os,h1,h2,fun e2 K2 hl hK=>?_⟩
          have:e2 d=.lit (.bool b):=by rw[hl d (guard_looks hg hdj)];exact he
          simp only[hdj,this]
          exact⟨fun _=>h3 e2 K2 (ev_looks hl) hK,fun hn=>absurd hbw hn⟩
        · refine⟨.lit (.tuple #[]),σ.objs,eff_refl _ _,hW.2 hbw,fun e2 K2 hl hK=>?_⟩
          have:e2 d=.lit (.bool b):=by rw[hl d (guard_looks hg hdj)];exact he
          simp only[hdj,this]
          exact⟨fun hn=>absurd hn hbw,fun _=>hK⟩
      · rename_i vs he
        refine⟨.lit (.tuple #[]),σ.objs,eff_refl _ _,hW.2,fun e2 K2 hl hK=>?_⟩
        have:e2 d=.lit (.tuple vs):=by rw[hl d (guard_looks hg hdj)];exact he
        simp only[hdj,this]
        exact⟨hW.1,hK⟩
      · exact hW.elim
theorem stepD_value {ops:Array Oper} {q:Bool} {o:Oper} {σ:St} {K:St→Prop} (hc:clsQ q o≤2) (hW:stepD P ops q o K σ) :
    ∃ v,K (σ.put o.dst v)∧∀ (σ2:St) (K2:St→Prop),(∀ t∈o.looksAt ops,σ2.env t=σ.env t)→(∀ (id:Nat),ObjC (clsQ q o) σ.objs[id]? σ2.objs[id]?)→K2 (σ2.put o.dst v)→stepD P ops q o K2 σ2:=by
  unfold stepD at hW ⊢
  cases hg:o.guard with
  | none =>
    simp only[hg] at hW
    obtain ⟨v,h2,h3⟩:=opGm_value hc hW
    exact⟨v,h2,fun σ2 K2 hl ho hK=>h3 σ2 K2 (ev_looks (e2:=σ2.env) (os:=σ2.objs) hl) ho hK⟩
  | some jw =>
    obtain ⟨j,want⟩:=jw
    simp only[hg] at hW
    cases hdj:(ops[j]?).bind (·.dst) with
    | none=>simp[hdj] at hW
    | some d =>
      simp only[hdj] at hW
      split at hW
      · rename_i b he
        by_cases hbw:b=want
        · obtain ⟨v,h2,h3⟩:=opGm_value hc (hW.1 hbw)
          refine⟨v,h2,fun σ2 K2 hl ho hK=>?_⟩
          have:σ2.env d=.lit (.bool b):=by rw[hl d (guard_looks hg hdj)];exact he
          simp only[hdj,this]
          exact⟨fun _=>h3 σ2 K2 (ev_looks (e2:=σ2.env) (os:=σ2.objs) hl) ho hK,fun hn=>absurd hbw hn⟩
        · refine⟨.lit (.tuple #[]),hW.2 hbw,fun σ2 K2 hl ho hK=>?_⟩
          have:σ2.env d=.lit (.bool b):=by rw[hl d (guard_looks hg hdj)];exact he
          simp only[hdj,this]
          exact⟨fun hn=>absurd hn hbw,fun _=>hK⟩
      · rename_i vs he
        refine⟨.lit (.tuple #[]),hW.2,fun σ2 K2 hl ho hK=>?_⟩
        have:σ2.env d=.lit (.tuple vs):=by rw[hl d (guard_looks hg hdj)];exact he
        simp only[hdj,this]
        exact⟨hW.1,hK⟩
      · exact hW.elim
theorem put_env_ne {σ:St} {dst:Option Tmp} {v:AV} {t:Nat} (h:∀ d,dst=some d→d≠t):(σ.put dst v).env t=σ.env t:=by
  cases dst with
  | none=>rfl
  | some d =>
    have:=h d rfl
    simp[St.put,upd,Ne.symm this]
theorem put_comm' {σ:St} {x y:Option Tmp} {v u:AV} (h:∀ d,x=some d→y≠some d):(σ.put x v).put y u=(σ.put y u).put x v:=by
  cases x with
  | none=>rfl
  | some d =>
    cases y with
    | none=>rfl
    | some d' =>
      have hne:d'≠d:=fun e=>h d rfl (by rw[e])
      simp only[St.put]
      congr 1
      funext k
      simp only[upd]
      split<;>split<;>simp_all
theorem put_objs {σ:St} {x:Option Tmp} {v:AV}:(σ.put x v).objs=σ.objs:=by cases x<;>rfl
theorem put_eta {σ:St} {x:Option Tmp} {v:AV}:σ.put x v=⟨(σ.put x v).env,σ.objs⟩:=by cases x<;>rfl
theorem put_over {σ:St} {os:List Ob} {x:Option Tmp} {v:AV}:(⟨(σ.put x v).env,os⟩:St)=(⟨σ.env,os⟩:St).put x v:=by cases x<;>rfl
def compat (ci ck:Nat):Bool:=ci == 0 || ck == 0 || (ci == 1 && decide (ck≤4)) || (ci == 2 && decide (ck≤3))
theorem eff_objC {ci ck:Nat} (h:(ci == 0 || (ci == 1 && decide (ck≤4)) || (ci == 2 && decide (ck≤3)))=true) {a b:List Ob} (he:Eff ck a b) (id:Nat):ObjC ci a[id]? b[id]?:=by
  simp only[Bool.or_eq_true,Bool.and_eq_true,beq_iff_eq,decide_eq_true_eq] at h
  rcases h with (rfl | ⟨rfl,hk⟩) | ⟨rfl,hk⟩
  · simp[ObjC]
  · unfold Eff at he
    have:∀ o,a[id]?=some o→∃ o',b[id]?=some o'∧sameK o o':=by
      intro o ho
      have hlt:=(List.getElem?_eq_some_iff.1 ho).1
      split at he
      · subst he;exact⟨o,ho,sameK_refl o⟩
      · split at he
        · exact⟨o,by rw[he id hlt];exact ho,sameK_refl o⟩
        · split at he
          · have hb:id<b.length:=by omega
            exact⟨b[id],by simp[hb],he.2 id o _ ho (by simp[hb])⟩
          · omega
    simpa [ObjC] using this
  · unfold Eff at he
    have:∀ o,a[id]?=some o→b[id]?=some o:=by
      intro o ho
      have hlt:=(List.getElem?_eq_some_iff.1 ho).1
      split at he
      · subst he;exact ho
      · split at he
        · rw[he id hlt];exact ho
        · omega
    simpa [ObjC] using this
theorem swap_value {ops:Array Oper} {qi qk:Bool} {oi ok:Oper} (ha:oi.apart ops ok=true) (hi:clsQ qi oi≤2)
    (hc:(clsQ qi oi == 0 || (clsQ qi oi == 1 && decide (clsQ qk ok≤4)) || (clsQ qi oi == 2 && decide (clsQ qk ok≤3)))=true) {σ:St} {K:St→Prop}
    (h:stepD P ops qi oi (stepD P ops qk ok K) σ):stepD P ops qk ok (stepD P ops qi oi K) σ:=by
  obtain ⟨a1,a2,a3⟩:=Oper.apart_spec ha
  obtain ⟨v,h1,run⟩:=stepD_value hi h
  obtain ⟨vk,os,heff,h2,run2⟩:=stepD_local h1
  rw[put_objs] at heff run2
  refine run2 σ.env _ (fun t ht=>(put_env_ne fun d hd e=>a1 d hd (e ▸ ht)).symm) ?_
  refine run _ _ (fun t ht=>?_) (fun id=>?_) ?_
  · rw[put_env_ne fun d hd e=>a3 d hd (e ▸ ht)]
  · rw[put_objs];exact eff_objC hc heff id
  · rw[put_over] at h2
    rw[put_comm' (fun d hd e=>a2 d e hd)]
    exact h2
theorem swap_quiet {ops:Array Oper} {qi qk:Bool} {oi ok:Oper} (ha:oi.apart ops ok=true) (hk:clsQ qk ok=0) {σ:St} {K:St→Prop}
    (h:stepD P ops qi oi (stepD P ops qk ok K) σ):stepD P ops qk ok (stepD P ops qi oi K) σ:=by
  obtain ⟨a1,a2,a3⟩:=Oper.apart_spec ha
  obtain ⟨vi,os,heff,h1,run⟩:=stepD_local h
  obtain ⟨vk,h2,runk⟩:=stepD_value (by omega) h1
  refine runk σ _ (fun t ht=>(put_env_ne (σ:=⟨σ.env,os⟩) fun d hd e=>a1 d hd (e ▸ ht)).symm) (fun id=>by rw[hk];simp[ObjC]) ?_
  rw[put_eta]
  refine run _ _ (fun t ht=>put_env_ne fun d hd e=>a3 d hd (e ▸ ht)) ?_
  rw[put_over,put_comm' (fun d hd e=>a2 d e hd)]
  exact h2
theorem swap_steps {ops:Array Oper} {qi qk:Bool} {oi ok:Oper} (ha:oi.apart ops ok=true) (hc:compat (clsQ qi oi) (clsQ qk ok)=true) {σ:St} {K:St→Prop}
    (h:stepD P ops qi oi (stepD P ops qk ok K) σ):stepD P ops qk ok (stepD P ops qi oi K) σ:=by
  by_cases hk:clsQ qk ok=0
  · exact swap_quiet ha hk h
  · have hc':(clsQ qi oi == 0 || (clsQ qi oi == 1 && decide (clsQ qk ok≤4)) || (clsQ qi oi == 2 && decide (clsQ qk ok≤3)))=true:=by
      simp only[compat,Bool.or_eq_true,Bool.and_eq_true,beq_iff_eq,decide_eq_true_eq] at hc ⊢
      rcases hc with ((h | h) | h) | h
      · exact .inl (.inl h)
      · exact absurd h hk
      · exact .inl (.inr h)
      · exact .inr h
    refine swap_value ha ?_ hc' h
    simp only[Bool.or_eq_true,Bool.and_eq_true,beq_iff_eq,decide_eq_true_eq] at hc'
    omega
end Go.Am
namespace Go.Am
variable {P:Program} {N n0:Nat} {σ:St}
def stepAt (P:Program) (ops:Array Oper) (qs:List Nat) (i:Nat) (K:St→Prop) (σ:St):Prop :=
  match ops[i]? with
  | none=>K σ
  | some o=>stepD P ops (qs.contains i) o K σ
def anyW (P:Program) (ops:Array Oper) (qs:List Nat) (K:St→Prop):Nat→Array Bool→St→Prop
  | 0,listed,σ=>Region.ready .any ops listed=[]∧K σ
  | n+1,listed,σ=>(Region.ready .any ops listed=[]→K σ)∧∀ i∈Region.ready .any ops listed,stepAt P ops qs i (anyW P ops qs K n (listed.setIfInBounds i true)) σ
theorem stepD_mono {ops:Array Oper} {q:Bool} {o:Oper} {σ:St} {K K2:St→Prop} (hk:∀ s,K s→K2 s) (h:stepD P ops q o K σ):stepD P ops q o K2 σ:=by
  obtain ⟨v,os,_,h2,run⟩:=stepD_local h
  exact run σ.env K2 (fun _ _=>rfl) (hk _ h2)
theorem stepD_some {ops:Array Oper} {q:Bool} {o:Oper} {σ:St} {K:St→Prop} (h:stepD P ops q o K σ) :∃s,K s:=by
  obtain ⟨v,os,_,h2,run⟩:=stepD_local h
  exact⟨_,h2⟩
theorem stepAt_mono {ops:Array Oper} {qs:List Nat} {i:Nat} {σ:St} {K K2:St→Prop} (hk:∀ s,K s→K2 s) (h:stepAt P ops qs i K σ):stepAt P ops qs i K2 σ:=by
  unfold stepAt at h ⊢
  split at h
  · exact hk _ h
  · exact stepD_mono hk h
theorem stepAt_some {ops:Array Oper} {qs:List Nat} {i:Nat} {σ:St} {K:St→Prop} (h:stepAt P ops qs i K σ) :∃s,K s:=by
  unfold stepAt at h
  split at h
  · exact⟨_,h⟩
  · exact stepD_some h
theorem anyW_sound {os:List Ob} {γ0:Cx} {ops:Array Oper} {qs:List Nat} (hd:∀ o∈ops.toList,∀ d,o.dst=some d→d<N) {K:St→Prop} {Q:Exit→Act→World→Prop}
    (hQ:∀ σ' a' w',K σ'→Okay N os γ0 σ' a' w'→Q .normal a' w'):∀ (n:Nat) (listed:Array Bool) (σ:St) (a:Act) (w:World),anyW P ops qs K n listed σ→Okay N os γ0 σ a w→wpAny P .any ops Q n listed a w
  | 0,listed,σ,a,w,h,hok=>⟨h.1,hQ _ _ _ h.2 hok⟩
  | n+1,listed,σ,a,w,h,hok=>by
    refine⟨fun hr=>hQ _ _ _ (h.1 hr) hok,fun i hi=>?_⟩
    have:=h.2 i hi
    unfold stepAt at this
    split at this
    · rename_i hi'
      unfold wpOp
      simp only[hi']
      exact anyW_sound hd hQ n _ _ _ _ this hok
    · rename_i o hi'
      exact stepD_sound hd hi' this hok fun σ' a' w' hK hok'=>anyW_sound hd hQ n _ _ _ _ hK hok'
theorem W_region_any {id:Nat} {ops:Array Oper} {Q:Exit→St→Prop} (qs:List Nat) (hm:P.follows .mixedOrders=true) (hd:dstOK N ops=true)
    (h:anyW P ops qs (Q .normal) ops.size (Array.replicate ops.size false) σ):W P N n0 (.region id ops true) Q σ:=by
  intro os γ0 a w _ hok
  refine wp_region_any hm ?_
  exact anyW_sound (dstOK_spec hd) (K:=Q .normal) (fun σ' a' w' hK hok'=>⟨σ',hK,hok'⟩) _ _ _ _ _ h hok.drawn
theorem any_take {ops:Array Oper} {qs:List Nat} {K:St→Prop} {i:Nat} {o:Oper} (hi:ops[i]?=some o) (D:List Nat) (hiD:i∈D)
    (hD:∀ j∈D,j=i∨∃ oj,ops[j]?=some oj∧∃ e∈oj.after,Region.binds .any e=true∧e.on∈D):∀ (fuel:Nat) (listed:Array Bool) (σ:St),(∀ j∈D,listed.getD j true=false) →
      i∈Region.ready .any ops listed →
      (∀ j oj,ops[j]?=some oj→listed.getD j true=false→j ∉ D→o.apart ops oj=true∧compat (clsQ (qs.contains i) o) (clsQ (qs.contains j) oj)=true) →
      stepAt P ops qs i (anyW P ops qs K fuel (listed.setIfInBounds i true)) σ→anyW P ops qs K (fuel+1) listed σ:=by
  intro fuel
  induction fuel with
  | zero =>
    intro listed σ hu hr hap h
    refine⟨fun e=>by rw[e] at hr;simp at hr,fun k hk=>?_⟩
    by_cases hki:k=i
    · subst hki;exact h
    · obtain ⟨s,hs⟩:=stepAt_some h
      have:=ready_mono hk hki
      rw[hs.1] at this
      simp at this
  | succ m ih =>
    intro listed σ hu hr hap h
    refine⟨fun e=>by rw[e] at hr;simp at hr,fun k hk=>?_⟩
    by_cases hki:k=i
    · subst hki;exact h
    · have hkr:=mem_ready.1 hk
      obtain ⟨hkl,ok,hok,hke⟩:=hkr
      have hkD:k ∉ D:=by
        intro hkD
        rcases hD k hkD with e | ⟨oj,hoj,e,he,hb,hon⟩
        · exact hki e
        · rw[hok] at hoj
          simp only[Option.some.injEq] at hoj
          subst hoj
          have h1:=hke e he hb
          have h2:=hu e.on hon
          rw[Array.getD_eq_getD_getElem?] at h1 h2
          cases hx:listed[e.on]? with
          | none=>rw[hx] at h1;simp at h1
          | some b=>rw[hx] at h1 h2;simp at h1 h2;rw[h1] at h2;simp at h2
      obtain ⟨ha,hc⟩:=hap k ok hok hkl hkD
      have h1:stepAt P ops qs i (stepAt P ops qs k (anyW P ops qs K m ((listed.setIfInBounds i true).setIfInBounds k true))) σ :=
        stepAt_mono (fun s hs=>hs.2 k (ready_mono hk hki)) h
      have h2:stepAt P ops qs k (stepAt P ops qs i (anyW P ops qs K m ((listed.setIfInBounds i true).setIfInBounds k true))) σ:=by
        unfold stepAt at h1 ⊢
        simp only[hi,hok] at h1 ⊢
        exact swap_steps ha hc h1
      refine stepAt_mono (fun s hs=>?_) h2
      refine ih (listed.setIfInBounds k true) s (fun j hj=>?_) (ready_mono hr (Ne.symm hki)) (fun j oj hoj hl hjD=>?_) ?_
      · have hne:k≠j:=fun e=>hkD (by rw[e];exact hj)
        rw[getD_set_ne _ hne];exact hu j hj
      · refine hap j oj hoj ?_ hjD
        by_cases hjk:k=j
        · subst hjk;exact hkl
        · rwa [getD_set_ne _ hjk] at hl
      · rw[Array.setIfInBounds_comm _ _ (Ne.symm hki)] at hs
        exact hs
def depsOf (ops:Array Oper) (i:Nat):List Nat :=
  (List.range ops.size).foldl (fun D j=>if j == i || (match ops[j]? with | some oj=>oj.after.any (fun e=>Region.binds .any e && D.contains e.on) | none=>false) then D++[j] else D) []
def takeOK (ops:Array Oper) (qs:List Nat) (listed:Array Bool) (i:Nat) (D:List Nat):Bool :=
  match ops[i]? with
  | none=>false
  | some o =>
    D.contains i && D.all (fun j=>j == i || match ops[j]? with | some oj=>oj.after.any (fun e=>Region.binds .any e && D.contains e.on) | none=>false) &&
    D.all (fun j=>!listed.getD j true) && o.after.all (fun e=>!Region.binds .any e || listed.getD e.on false) &&
    (List.range ops.size).all fun j=>D.contains j || listed.getD j true || match ops[j]? with | some oj=>o.apart ops oj && compat (clsQ (qs.contains i) o) (clsQ (qs.contains j) oj) | none=>true
theorem take_ok {ops:Array Oper} {qs:List Nat} {K:St→Prop} {i:Nat} {D:List Nat} {fuel:Nat} {listed:Array Bool} (h:takeOK ops qs listed i D=true)
    (hs:stepAt P ops qs i (anyW P ops qs K fuel (listed.setIfInBounds i true)) σ):anyW P ops qs K (fuel+1) listed σ:=by
  unfold takeOK at h
  cases hi:ops[i]? with
  | none=>simp[hi] at h
  | some o =>
    simp only[hi,Bool.and_eq_true,List.all_eq_true,List.contains_iff_mem,Bool.or_eq_true,beq_iff_eq,Bool.not_eq_true'] at h
    obtain ⟨⟨⟨⟨h1,h2⟩,h3⟩,h4⟩,h5⟩:=h
    refine any_take hi D h1 (fun j hj=>?_) fuel listed σ h3 ?_ ?_ hs
    · rcases h2 j hj with h | h
      · exact .inl h
      · right
        split at h
        · rename_i oj hoj
          rw[Array.any_eq_true'] at h
          obtain ⟨e,he,hb⟩:=h
          simp only[Bool.and_eq_true,List.contains_iff_mem] at hb
          exact⟨oj,hoj,e,he,hb.1,hb.2⟩
        · simp at h
    · rw[mem_ready]
      refine⟨h3 i h1,o,hi,fun e he hb=>?_⟩
      rw[Array.all_eq_true'] at h4
      have:=h4 e he
      simpa [hb] using this
    · intro j oj hoj hl hjD
      have hj:j<ops.size:=(Array.getElem?_eq_some_iff.1 hoj).1
      rcases h5 j (List.mem_range.2 hj) with (h | h) | h
      · exact absurd h hjD
      · rw[hl] at h;simp at h
      · simpa [hoj] using h
inductive PT where
  | nil
  | take (i:Nat) (t:PT)
  | both (i:Nat) (t:PT) (j:Nat) (u:PT)
  | three (i:Nat) (t:PT) (j:Nat) (u:PT) (k:Nat) (v:PT)
def PT.ok (ops:Array Oper) (qs:List Nat):PT→Nat→Array Bool→Bool
  | .nil,n,listed=>n == 0 && (Region.ready .any ops listed).isEmpty
  | .take _ _,0,_=>false
  | .take i t,n+1,listed=>takeOK ops qs listed i (depsOf ops i) && t.ok ops qs n (listed.setIfInBounds i true)
  | .both _ _ _ _,0,_=>false
  | .both i t j u,n+1,listed=>(Region.ready .any ops listed == [i,j]) && t.ok ops qs n (listed.setIfInBounds i true) && u.ok ops qs n (listed.setIfInBounds j true)
  | .three _ _ _ _ _ _,0,_=>false
  | .three i t j u k v,n+1,listed=>(Region.ready .any ops listed == [i,j,k]) && t.ok ops qs n (listed.setIfInBounds i true) && u.ok ops qs n (listed.setIfInBounds j true) && v.ok ops qs n (listed.setIfInBounds k true)
def planW (P:Program) (ops:Array Oper) (qs:List Nat):PT→(St→Prop)→St→Prop
  | .nil,K,σ=>K σ
  | .take i t,K,σ=>stepAt P ops qs i (planW P ops qs t K) σ
  | .both i t j u,K,σ=>stepAt P ops qs i (planW P ops qs t K) σ∧stepAt P ops qs j (planW P ops qs u K) σ
  | .three i t j u k v,K,σ=>stepAt P ops qs i (planW P ops qs t K) σ∧stepAt P ops qs j (planW P ops qs u K) σ∧stepAt P ops qs k (planW P ops qs v K) σ
theorem plan_any {ops:Array Oper} {qs:List Nat} {K:St→Prop}:∀ (t:PT) (n:Nat) (listed:Array Bool) (σ:St),t.ok ops qs n listed=true→planW P ops qs t K σ→anyW P ops qs K n listed σ
  | .nil,n,listed,σ,h,hp=>by
    simp only[PT.ok,Bool.and_eq_true,beq_iff_eq,List.isEmpty_iff] at h
    obtain ⟨rfl,h⟩:=h
    exact⟨h,hp⟩
  | .take _ _,0,_,_,h,_=>by simp[PT.ok] at h
  | .take i t,n+1,listed,σ,h,hp=>by
    simp only[PT.ok,Bool.and_eq_true] at h
    exact take_ok h.1 (stepAt_mono (fun s hs=>plan_any t n _ s h.2 hs) hp)
  | .both _ _ _ _,0,_,_,h,_=>by simp[PT.ok] at h
  | .both i t j u,n+1,listed,σ,h,hp=>by
    simp only[PT.ok,Bool.and_eq_true,beq_iff_eq] at h
    obtain ⟨⟨h1,h2⟩,h3⟩:=h
    refine⟨fun e=>by rw[h1] at e;simp at e,fun k hk=>?_⟩
    rw[h1] at hk
    simp only[List.mem_cons,List.not_mem_nil,or_false] at hk
    rcases hk with rfl | rfl
    · exact stepAt_mono (fun s hs=>plan_any t n _ s h2 hs) hp.1
    · exact stepAt_mono (fun s hs=>plan_any u n _ s h3 hs) hp.2
  | .three _ _ _ _ _ _,0,_,_,h,_=>by simp[PT.ok] at h
  | .three i t j u k v,n+1,listed,σ,h,hp=>by
    simp only[PT.ok,Bool.and_eq_true,beq_iff_eq] at h
    obtain ⟨⟨⟨h1,h2⟩,h3⟩,h4⟩:=h
    refine⟨fun e=>by rw[h1] at e;simp at e,fun x hk=>?_⟩
    rw[h1] at hk
    simp only[List.mem_cons,List.not_mem_nil,or_false] at hk
    rcases hk with rfl | rfl | rfl
    · exact stepAt_mono (fun s hs=>plan_any t n _ s h2 hs) hp.1
    · exact stepAt_mono (fun s hs=>plan_any u n _ s h3 hs) hp.2.1
    · exact stepAt_mono (fun s hs=>plan_any v n _ s h4 hs) hp.2.2
theorem W_draw {id:Nat} {ops:Array Oper} {Q:Exit→St→Prop} (qs:List Nat) (t:PT) (hm:P.follows .mixedOrders=true) (hd:dstOK N ops=true) (ht:t.ok ops qs ops.size (Array.replicate ops.size false)=true)
    (h:planW P ops qs t (Q .normal) σ):W P N n0 (.region id ops true) Q σ :=
  W_region_any qs hm hd (plan_any t _ _ σ ht h)
theorem W_draw_k {id:Nat} {ops:Array Oper} {y:Code} {Q:Exit→St→Prop} (qs:List Nat) (t:PT) (hm:P.follows .mixedOrders=true) (hd:dstOK N ops=true) (ht:t.ok ops qs ops.size (Array.replicate ops.size false)=true)
    (h:∀ K:St→Prop,(∀ s,W P N n0 y Q s→K s)→planW P ops qs t K σ):W P N n0 (.seq (.region id ops true) y) Q σ :=
  W_seq (W_draw qs t hm hd ht (h _ (fun _ h=>h)))
theorem planW_nil {ops:Array Oper} {qs:List Nat} {K:St→Prop}:planW P ops qs .nil K σ=K σ:=rfl
theorem planW_take {ops:Array Oper} {qs:List Nat} {i:Nat} {t:PT} {K:St→Prop}:planW P ops qs (.take i t) K σ=stepAt P ops qs i (planW P ops qs t K) σ:=rfl
theorem planW_three {ops:Array Oper} {qs:List Nat} {i j k:Nat} {t u v:PT} {K:St→Prop}:planW P ops qs (.three i t j u k v) K σ=(stepAt P ops qs i (planW P ops qs t K) σ∧stepAt P ops qs j (planW P ops qs u K) σ∧stepAt P ops qs k (planW P ops qs v K) σ):=rfl
theorem planW_both {ops:Array Oper} {qs:List Nat} {i j:Nat} {t u:PT} {K:St→Prop}:planW P ops qs (.both i t j u) K σ=(stepAt P ops qs i (planW P ops qs t K) σ∧stepAt P ops qs j (planW P ops qs u K) σ):=rfl
theorem guardM_tt {q:Bool} {o:Oper} {K:St→Prop}:guardM q P o K true true σ=opGm q P o σ K:=by simp[guardM]
theorem guardM_ff {q:Bool} {o:Oper} {K:St→Prop}:guardM q P o K false false σ=opGm q P o σ K:=by simp[guardM]
theorem guardM_tf {q:Bool} {o:Oper} {K:St→Prop}:guardM q P o K true false σ=K (σ.put o.dst (.lit (.tuple #[]))):=by simp[guardM]
theorem guardM_ft {q:Bool} {o:Oper} {K:St→Prop}:guardM q P o K false true σ=K (σ.put o.dst (.lit (.tuple #[]))):=by simp[guardM]
theorem guardM_split {q:Bool} {o:Oper} {K:St→Prop} {b want:Bool} (h1:b=true→guardM q P o K true want σ) (h2:b=false→guardM q P o K false want σ):guardM q P o K b want σ:=by
  cases b
  · exact h2 rfl
  · exact h1 rfl
def seqP:List Nat→PT
  | []=>.nil
  | i::r=>.take i (seqP r)
end Go.Am
namespace Go.Am
variable {P:Program} {N n0:Nat} {σ:St} {Q:Exit→St→Prop}
def slots:List (Nat × AV)→Nat→AV
  | []=>fun _=>.undef
  | p::l=>upd (slots l) p.1 p.2
theorem slots_cons (d:Nat) (v:AV) (l:List (Nat × AV)):slots ((d,v)::l)=upd (slots l) d v:=rfl
theorem slots_or (l:List (Nat × AV)) (k:Nat):slots l k=.undef∨∃ p∈l,p.1=k∧slots l k=p.2:=by
  induction l with
  | nil=>exact .inl rfl
  | cons p l ih =>
    by_cases h:k=p.1
    · right
      exact⟨p,by simp,h.symm,by simp[slots,upd,h]⟩
    · have e:slots (p::l) k=slots l k:=by simp[slots,upd,h]
      rw[e]
      rcases ih with h | ⟨q,hq,h1,h2⟩
      · exact .inl h
      · exact .inr ⟨q,by simp[hq],h1,h2⟩
def Has (e:Nat→AV):List (Nat × AV)→Prop
  | []=>True
  | p::l=>e p.1=p.2∧Has e l
theorem Has.mem {e:Nat→AV}:∀ {l:List (Nat × AV)},Has e l→∀ p∈l,e p.1=p.2
  | q::l,h,p,hp=>by
    rcases List.mem_cons.1 hp with rfl | hp
    · exact h.1
    · exact Has.mem h.2 p hp
theorem Turns.slots (l:List (Nat × AV)) (os:List Ob) (ho:σ.objs=os) (h:Has σ.env l):Turns n0 σ ⟨slots l,os⟩:=by
  subst ho
  refine Turns.forget fun k=>?_
  rcases slots_or l k with h' | ⟨p,hp,rfl,h'⟩
  · exact .inl h'
  · right;rw[h',h.mem p hp]
def SelO (ρ:Nat→Nat) (os:List Ob):List Nat→List Ob→Prop
  | [],[]=>True
  | i::sel,o::co=>(i<os.length∧(o=.gone∨os[i]?=some (renO ρ o)))∧SelO ρ os sel co
  | _,_=>False
theorem SelO.spec {ρ:Nat→Nat} {os:List Ob}:∀ {sel:List Nat} {co:List Ob},SelO ρ os sel co→co.length=sel.length∧(∀ (j:Nat) o,co[j]?=some o→o=.gone∨os[sel.getD j 0]?=some (renO ρ o))∧∀ i∈sel,i<os.length
  | [],[],_=>⟨rfl,by simp,by simp⟩
  | i::sel,o::co,h=>by
    obtain ⟨⟨h1,h2⟩,h3⟩:=h
    obtain ⟨a,b,c⟩:=SelO.spec h3
    refine⟨by simp[a],fun j o' hj=>?_,fun x hx=>?_⟩
    · cases j with
      | zero=>simp at hj;subst hj;simpa using h2
      | succ j=>simpa using b j o' (by simpa using hj)
    · rcases List.mem_cons.1 hx with rfl | hx
      · exact h1
      · exact c x hx
def HasR (R:AV→AV→Prop) (e:Nat→AV):List (Nat × AV)→Prop
  | []=>True
  | p::l=>R p.2 (e p.1)∧HasR R e l
theorem HasR.mem {R:AV→AV→Prop} {e:Nat→AV}:∀ {l:List (Nat × AV)},HasR R e l→∀ p∈l,R p.2 (e p.1)
  | q::l,h,p,hp=>by
    rcases List.mem_cons.1 hp with rfl | hp
    · exact h.1
    · exact HasR.mem h.2 p hp
def kept (sel:List Nat) (co:List Ob) (id:Nat):Prop:=∃ j,j<sel.length∧sel.getD j 0=id∧co[j]?≠some .gone
theorem Turns.sel (sel:List Nat) (snap:Bool) (l:List (Nat × AV)) (co:List Ob) (hnd:sel.Nodup) (ho:SelO (rho σ.objs.length sel) σ.objs sel co) (hn:n0≤sel.length) (hid:∀ i,i<n0→sel.getD i 0=i)
    (h:HasR (ArgR σ (kept sel co) (rho σ.objs.length sel) snap) σ.env l):Turns n0 σ ⟨Am.slots l,co⟩:=by
  obtain ⟨h1,h2,h3⟩:=ho.spec
  refine Turns.select sel snap co _ hnd h1 h2 h3 hn hid fun k=>?_
  rcases slots_or l k with h' | ⟨p,hp,rfl,h'⟩
  · exact .inl h'
  · right;rw[h'];exact h.mem p hp
theorem ArgR.pure {kp:Nat→Prop} {ρ:Nat→Nat} {snap:Bool} {v:AV} (h:noRef v=true):ArgR σ kp ρ snap v v:=by
  have:=ArgR.same (σ:=σ) (kp:=kp) (ρ:=ρ) (snap:=snap) v
  rwa [ren_noRef _ v h] at this
theorem ArgR.eq {kp:Nat→Prop} {ρ:Nat→Nat} {snap:Bool} {v u:AV} (h:u=ren ρ v):ArgR σ kp ρ snap v u:=by
  subst h;exact .same v
theorem Frz.flat {kp:Nat→Prop} {id sz len:Nat} {rows:List (List AV)} (ho:σ.objs[id]?=some (.arr sz rows)) (hw:∀ row∈rows,row.length=sz) (hl:len=rows.length) (hsel:¬ kp id) (hf:∀ row∈rows,∀ v∈row,(∃ x,v=.lit x)∨∃ s r,v=.tree s r) :
    Frz σ kp (.tree sz rows) (.ref id sz 0 len):=by
  refine .ref id sz 0 len rows rows (fun r c=>(cellAt rows r c).getD .undef) ho hsel (by simp[hl]) hw (fun r c v hv=>?_) (fun r c v hv=>?_)
  · simp[hl,hv]
  · rw[hv,Option.getD_some]
    simp only[cellAt,Option.bind_eq_some_iff] at hv
    obtain ⟨row,h1,h2⟩:=hv
    rcases hf row (List.mem_of_getElem? h1) v (List.mem_of_getElem? h2) with ⟨x,rfl⟩ | ⟨s,r,rfl⟩
    · exact .lit x
    · exact .tree s r
theorem ArgR.nil {kp:Nat→Prop} {ρ:Nat→Nat} {sz:Nat}:ArgR σ kp ρ true (.tree sz []) (.lit (.slice none 0 0)):=.snap _ _ rfl (.nil sz)
theorem ArgR.frz {kp:Nat→Prop} {ρ:Nat→Nat} {id sz len:Nat} {rows:List (List AV)} (ho:σ.objs[id]?=some (.arr sz rows)) (hw:∀ row∈rows,row.length=sz) (hl:len=rows.length) (hsel:¬ kp id) (hf:∀ row∈rows,∀ v∈row,(∃ x,v=.lit x)∨∃ s r,v=.tree s r) :
    ArgR σ kp ρ true (.tree sz rows) (.ref id sz 0 len):=.snap _ _ rfl (Frz.flat ho hw hl hsel hf)
def loopT {α:Type} (n0:Nat) (S:α→St) (I:α→Prop) (M:α→Nat) (x:α) (Q:Exit→St→Prop):Exit→St→Prop
  | .normal,s=>∃ y,I y∧M y<M x∧Turns n0 s (S y)
  | e,s=>Q e s
theorem W_loopT {α:Type} {c:Code} (S:α→St) (I:α→Prop) (M:α→Nat) (x0:α) (hI:I x0) (h0:Turns n0 σ (S x0)) (round:∀ x,I x→∀ Q':Exit→St→Prop,(∀ s y,I y→M y<M x→Turns n0 s (S y)→Q' .normal s)→(∀ e s,e≠.normal→Q e s→Q' e s)→W P N n0 c Q' (S x)):W P N n0 (.loop c) Q σ:=by
  refine W_turn h0 ?_
  intro os γ0 a w hn hok b k cs
  have key:∀ n x a w,M x=n→I x→Okay N os γ0 (S x) a w →
      ∃ e a' w',(∃ σ',Q e σ'∧Okay N os γ0 σ' a' w')∧Arrives P (lone (b.at a (.code c::.inLoop c::k)) cs w) b k cs e a' w':=by
    intro n
    induction n using Nat.strongRecOn with
    | _ n ih =>
      intro x a w hm hI hok
      have hr:W P N n0 c (loopT n0 S I M x Q) (S x):=round x hI _ (fun s y h1 h2 h3=>⟨y,h1,h2,h3⟩) (fun e s he h=>by cases e<;>first|exact absurd rfl he|exact h)
      obtain ⟨e,a₁,w₁,⟨σ',hq,hok'⟩,harr⟩:=hr os γ0 a w hn hok b (.inLoop c::k) cs
      cases e with
      | normal =>
        obtain ⟨y,hIy,hlt,ht⟩:=hq
        obtain ⟨h1,h2,γ,rfl,h3,h4,h5⟩:=hok'
        obtain ⟨γ',e1,e2,e3,e4⟩:=ht os γ0 γ hn h4 h5
        obtain ⟨e₂,a₂,w₂,hq₂,harr₂⟩:=ih (M y) (by omega) y a₁ γ.w rfl hIy ⟨h1,h2,γ',e1,e2.trans h3,e3,e4⟩
        exact⟨e₂,a₂,w₂,hq₂,.of_steps (Steps.trans harr (.one step_inLoop)) harr₂⟩
      | exit id=>exact⟨_,a₁,w₁,⟨σ',hq,hok'⟩,.pass (x:=.inLoop c) rfl (fun _ _=>.inl (by simp)) harr⟩
      | goto l=>exact⟨_,a₁,w₁,⟨σ',hq,hok'⟩,.pass (x:=.inLoop c) rfl (fun _ _=>.inl (by simp)) harr⟩
      | ret=>exact⟨_,a₁,w₁,⟨σ',hq,hok'⟩,.pass (x:=.inLoop c) rfl (fun _ _=>.inl (by simp)) harr⟩
      | panic ch=>exact⟨_,a₁,w₁,⟨σ',hq,hok'⟩,.pass (x:=.inLoop c) rfl (fun _ _=>.inl (by simp)) harr⟩
      | outgrown=>exact⟨_,a₁,w₁,⟨σ',hq,hok'⟩,.pass (x:=.inLoop c) rfl (fun _ _=>.inl (by simp)) harr⟩
  obtain ⟨e,a',w',hq,harr⟩:=key _ x0 a w rfl hI hok
  exact⟨e,a',w',hq,.of_steps (.one step_loop) harr⟩
theorem W_block_k {id:Nat} {c:Code} (h:∀ Q':Exit→St→Prop,(∀ s,Q .normal s→Q' .normal s)→(∀ s,Q .normal s→Q' (.exit id) s)→(∀ e s,e≠.normal→e≠.exit id→Q e s→Q' e s)→W P N n0 c Q' σ):W P N n0 (.block id c) Q σ :=
  W_block (h _ (fun s h=>h) (fun s h=>by simp only[blockQ,if_true];exact h) (fun e s h1 h2 h=>by
    cases e<;>first
      | exact absurd rfl h1
      | exact h
      | (rename_i id';simp only[blockQ];rw[if_neg (fun e=>h2 (by rw[e]))];exact h)))
theorem renO_noRef {ρ:Nat→Nat} {sz:Nat} {rows:List (List AV)} (h:∀ row∈rows,noRefL row=true):renO ρ (.arr sz rows)=.arr sz rows:=by
  simp only[renO]
  congr 1
  have:∀ row∈rows,row.map (ren ρ)=row:=fun row hr=>by
    have:=renL_noRef ρ row (h row hr)
    rwa [renL_eq] at this
  rw[List.map_congr_left this]
  simp
theorem rho_range (n j:Nat):rho n (List.range n) j=j:=by
  unfold rho
  split
  · rename_i h
    have h':j<n:=by simpa using h
    simp[List.getD_eq_getElem?_getD,List.getElem?_range h']
  · rename_i h
    simp at h ⊢
    omega
mutual
theorem ren_id:∀ (v:AV),ren (fun j=>j) v=v
  | .undef=>rfl
  | .lit _=>rfl
  | .tree ..=>rfl
  | .taddr _=>rfl
  | .ref ..=>rfl
  | .ptr ..=>rfl
  | .agg cs=>by simp only[ren];rw[renL_id cs]
  | .tup cs=>by simp only[ren];rw[renL_id cs]
  | .fn f cs=>by simp only[ren];rw[renL_id cs]
  | .ifc t v=>by simp only[ren];rw[ren_id v]
  | .mref _=>rfl
theorem renL_id:∀ (l:List AV),renL (fun j=>j) l=l
  | []=>rfl
  | v::vs=>by simp only[renL];rw[ren_id v,renL_id vs]
end
theorem renO_id (o:Ob):renO (fun j=>j) o=o:=by
  have h:ren (fun j=>j)=id:=by funext v;exact ren_id v
  cases o with
  | gone=>rfl
  | var cs=>simp[renO,h]
  | arr sz rows=>simp[renO,h]
  | mp ag L=>simp[renO,h]
theorem rho_id (n:Nat):rho n (List.range n)=fun j=>j:=by funext j;exact rho_range n j
theorem mergeO_range (objs:List Ob):∀ (objs':List Ob),objs.length≤objs'.length→mergeO objs (List.range objs.length) objs'=objs':=by
  intro objs' h
  have hlen:(List.range objs.length).length≤objs'.length:=by simpa using h
  apply List.ext_getElem?
  intro i
  rcases Nat.lt_or_ge i objs.length with hi | hi
  · have:=mergeO_sel (List.range objs.length) objs objs' hlen (List.nodup_range) (by simp) i (by simpa using hi)
    simpa [List.getD_eq_getElem?_getD,List.getElem?_range hi] using this
  · have hml:=mergeO_length (List.range objs.length) objs objs' hlen
    obtain ⟨j,rfl⟩ :∃j,i=objs.length+j:=⟨i - objs.length,by omega⟩
    have:=mergeO_new (List.range objs.length) objs objs' hlen j
    simpa using this
theorem callK_all {f:FuncId} {args:List AV} {dst:Option Tmp} {K:St→Prop} {res:AV} {objs':List Ob} (h:Holds P f args σ.objs res objs') (hl:σ.objs.length≤objs'.length) (hK:K ((⟨σ.env,objs'⟩:St).put dst res)):callK P f args dst K σ:=by
  refine⟨List.range σ.objs.length,false,args,σ.objs,res,objs',h,⟨List.nodup_range,by simp,?_,rfl,?_,by simp⟩,?_⟩
  · intro j o hj
    have hlt:=(List.getElem?_eq_some_iff.1 hj).1
    rw[rho_id,renO_id]
    simpa [List.getD_eq_getElem?_getD,List.getElem?_range hlt] using hj
  · intro j c d hc hd
    rw[hc] at hd
    simp only[Option.some.injEq] at hd
    subst hd
    exact .eq (by rw[rho_id,ren_id])
  · rw[rho_id,ren_id]
    have:objs'.map (renO (fun j=>j))=objs':=by
      have h:renO (fun j=>j)=id:=by funext o;exact renO_id o
      simp[h]
    rw[this,mergeO_range _ _ hl]
    exact hK
end Go.Am
namespace Go.Am
variable {P:Program} {N n0:Nat} {σ:St} {Q:Exit→St→Prop}
theorem W_region_e {id:Nat} {ops:Array Oper} (hd:dstOK N ops=true) (h:∀ K:St→Prop,(∀ s,Q .normal s→K s)→opsL P ops ops.toList K σ):W P N n0 (.region id ops false) Q σ :=
  W_region hd (h _ (fun _ h=>h))
theorem planW_seqP {ops:Array Oper} {K:St→Prop}:∀ (l:List Oper) (i:Nat) (σ:St),ops.toList.drop i=l→opsL P ops l K σ→planW P ops [] (seqP (List.range' i l.length)) K σ
  | [],i,σ,_,h=>h
  | o::r,i,σ,hl,h=>by
    have hi:ops[i]?=some o:=by
      have:(ops.toList.drop i)[0]?=some o:=by rw[hl];rfl
      simpa using this
    have hr:ops.toList.drop (i+1)=r:=by
      have:=congrArg List.tail hl
      simpa [List.tail_drop] using this
    rw[List.length_cons,List.range'_succ]
    show stepAt P ops [] i (planW P ops [] (seqP (List.range' (i+1) r.length)) K) σ
    unfold stepAt
    simp only[hi]
    have hm:∀ s,opsL P ops r K s→planW P ops [] (seqP (List.range' (i+1) r.length)) K s:=fun s hs=>planW_seqP r (i+1) s hr hs
    refine stepD_mono hm ?_
    unfold opsL at h
    unfold stepD
    cases hg:o.guard with
    | none=>simp only[hg] at h;exact h
    | some jw =>
      obtain ⟨j,want⟩:=jw
      simp only[hg] at h
      exact h
def inText (ops:Array Oper):Bool:=(seqP (List.range ops.size)).ok ops [] ops.size (Array.replicate ops.size false)
theorem W_draw_o {id:Nat} {ops:Array Oper} {y:Code} (hm:P.follows .mixedOrders=true) (hd:dstOK N ops=true) (ht:inText ops=true) (h:∀ K:St→Prop,(∀ s,W P N n0 y Q s→K s)→opsL P ops ops.toList K σ) :
    W P N n0 (.seq (.region id ops true) y) Q σ :=
  W_draw_k [] _ hm hd ht fun K hK=>by
    have:=planW_seqP (P:=P) (ops:=ops) ops.toList 0 σ rfl (h K hK)
    rw[List.range_eq_range']
    simpa using this
theorem W_draw_oe {id:Nat} {ops:Array Oper} (hm:P.follows .mixedOrders=true) (hd:dstOK N ops=true) (ht:inText ops=true) (h:∀ K:St→Prop,(∀ s,Q .normal s→K s)→opsL P ops ops.toList K σ) :
    W P N n0 (.region id ops true) Q σ :=
  W_draw [] _ hm hd ht (by
    have:=planW_seqP (P:=P) (ops:=ops) ops.toList 0 σ rfl (h _ (fun _ h=>h))
    rw[List.range_eq_range']
    simpa using this)
theorem RetOK_pure' {v res:AV} (hr:noRef v=true) (h:v=res):RetOK 0 σ v res []:=by
  subst h;exact RetOK_pure hr
theorem upd_app (e:Nat→AV) (d:Nat) (v:AV) (k:Nat):upd e d v k=if k=d then v else e k:=by simp only[upd]
theorem i64min:IntKind.i64.min = -9223372036854775808:=rfl
theorem i64max:IntKind.i64.max=9223372036854775807:=rfl
def ints (xs:List Int):List (List AV):=xs.map fun x=>[.lit (.int .i64 x)]
def bools (xs:List Bool):List (List AV):=xs.map fun x=>[.lit (.bool x)]
def intss (xs:List (List Int)):List (List AV):=xs.map fun x=>[.tree 1 (ints x)]
theorem ints_length (xs:List Int):(ints xs).length=xs.length:=by simp[ints]
theorem bools_length (xs:List Bool):(bools xs).length=xs.length:=by simp[bools]
theorem intss_length (xs:List (List Int)):(intss xs).length=xs.length:=by simp[intss]
theorem ints_getD (xs:List Int) (i:Nat) (h:i<xs.length):(ints xs).getD i []=[.lit (.int .i64 (xs.getD i 0))]:=by simp[ints,h]
theorem bools_getD (xs:List Bool) (i:Nat) (h:i<xs.length):(bools xs).getD i []=[.lit (.bool (xs.getD i false))]:=by simp[bools,h]
theorem intss_getD (xs:List (List Int)) (i:Nat) (h:i<xs.length):(intss xs).getD i []=[.tree 1 (ints (xs.getD i []))]:=by simp[intss,h]
theorem ints_get (xs:List Int) (i:Nat) (h:i<xs.length):(ints xs)[i]?=some [.lit (.int .i64 (xs.getD i 0))]:=by simp[ints,h]
theorem bools_get (xs:List Bool) (i:Nat) (h:i<xs.length):(bools xs)[i]?=some [.lit (.bool (xs.getD i false))]:=by simp[bools,h]
theorem intss_get (xs:List (List Int)) (i:Nat) (h:i<xs.length):(intss xs)[i]?=some [.tree 1 (ints (xs.getD i []))]:=by simp[intss,h]
theorem ints_set (xs:List Int) (i:Nat) (v:Int):(ints xs).set i [.lit (.int .i64 v)]=ints (xs.set i v):=by simp[ints,List.map_set]
theorem bools_set (xs:List Bool) (i:Nat) (v:Bool):(bools xs).set i [.lit (.bool v)]=bools (xs.set i v):=by simp[bools,List.map_set]
theorem ints_app (xs ys:List Int):ints xs++ints ys=ints (xs++ys):=by simp[ints]
theorem ints_app1 (xs:List Int) (v:Int):ints xs++[[.lit (.int .i64 v)]]=ints (xs++[v]):=by simp[ints]
theorem intss_app1 (xs:List (List Int)) (v:List Int):intss xs++[[.tree 1 (ints v)]]=intss (xs++[v]):=by simp[intss]
theorem bools_app1 (xs:List Bool) (v:Bool):bools xs++[[.lit (.bool v)]]=bools (xs++[v]):=by simp[bools]
theorem ints_rep (n:Nat) (v:Int):List.replicate n [AV.lit (.int .i64 v)]=ints (List.replicate n v):=by simp[ints]
theorem bools_rep (n:Nat) (v:Bool):List.replicate n [AV.lit (.bool v)]=bools (List.replicate n v):=by simp[bools]
theorem ints_scal (xs:List Int):((ints xs).all fun row=>row.all scal)=true:=by simp[ints,scal,Value.oneCell']
theorem bools_scal (xs:List Bool):((bools xs).all fun row=>row.all scal)=true:=by simp[bools,scal,Value.oneCell']
theorem intss_scal (xs:List (List Int)):((intss xs).all fun row=>row.all scal)=true:=by simp[intss,scal]
theorem ints_ren (ρ:Nat→Nat) (sz:Nat) (xs:List Int):renO ρ (.arr sz (ints xs))=.arr sz (ints xs):=renO_noRef (by simp[ints,noRefL,noRef])
theorem bools_ren (ρ:Nat→Nat) (sz:Nat) (xs:List Bool):renO ρ (.arr sz (bools xs))=.arr sz (bools xs):=renO_noRef (by
  intro row hr
  simp only[bools,List.mem_map] at hr
  obtain ⟨x,_,rfl⟩:=hr
  rfl)
theorem intss_ren (ρ:Nat→Nat) (sz:Nat) (xs:List (List Int)):renO ρ (.arr sz (intss xs))=.arr sz (intss xs):=renO_noRef (by simp[intss,noRefL,noRef])
theorem ints_frz (xs:List Int):∀ row∈ints xs,∀ v∈row,(∃ x,v=AV.lit x)∨∃ s r,v=AV.tree s r:=by
  intro row hr v hv
  simp only[ints,List.mem_map] at hr
  obtain ⟨x,_,rfl⟩:=hr
  simp at hv
  exact .inl ⟨_,hv⟩
theorem bools_frz (xs:List Bool):∀ row∈bools xs,∀ v∈row,(∃ x,v=AV.lit x)∨∃ s r,v=AV.tree s r:=by
  intro row hr v hv
  simp only[bools,List.mem_map] at hr
  obtain ⟨x,_,rfl⟩:=hr
  simp at hv
  exact .inl ⟨_,hv⟩
theorem intss_frz (xs:List (List Int)):∀ row∈intss xs,∀ v∈row,(∃ x,v=AV.lit x)∨∃ s r,v=AV.tree s r:=by
  intro row hr v hv
  simp only[intss,List.mem_map] at hr
  obtain ⟨x,_,rfl⟩:=hr
  simp at hv
  exact .inr ⟨_,_,hv⟩
theorem ints_wid (xs:List Int):∀ row∈ints xs,row.length=1:=by
  intro row hr;simp only[ints,List.mem_map] at hr;obtain ⟨x,_,rfl⟩:=hr;rfl
theorem bools_wid (xs:List Bool):∀ row∈bools xs,row.length=1:=by
  intro row hr;simp only[bools,List.mem_map] at hr;obtain ⟨x,_,rfl⟩:=hr;rfl
theorem intss_wid (xs:List (List Int)):∀ row∈intss xs,row.length=1:=by
  intro row hr;simp only[intss,List.mem_map] at hr;obtain ⟨x,_,rfl⟩:=hr;rfl
theorem getD_drop0 {α:Type} (xs:List α) (i:Nat) (d:α) (h:i<xs.length):xs.drop i=xs.getD i d::xs.drop (i+1):=by
  rw[List.drop_eq_getElem_cons h];simp[h]
end Go.Am

