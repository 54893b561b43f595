import Derived.Test.YtdipcmigdbnheaaGreatX03
set_option linter.unusedVariables false
set_option linter.unusedSimpArgs false
set_option linter.unnecessarySimpa false
set_option linter.unusedSectionVars false
set_option maxHeartbeats 64000000
set_option maxRecDepth 20000
open List renaming mem_of_getElem?→gw,mem_append→cy,map_congr_left→lP,getElem?_eq_some_iff→aS,range→aT,contains_iff_mem→q9,mem_cons→bZ,not_mem_nil→kC,getD_eq_getElem?_getD→ay,getElem?_range→j3,nodup_range→Gd,range'→mz,range_eq_range'→vd,map_set→p6,replicate→bq,mem_map→b7
open Array renaming getD_eq_getD_getElem?→eQ,toList_append→yu,replicate→wC
open Bool renaming or_eq_true→kB,and_eq_true→bh
open Option renaming some→da
namespace Go.Am
variable {P:Program}
def GM (P:Program) (g:FuncId) (args:List AV) (dst:Option Tmp) (K:St→Prop) (σ:St):Prop :=
  ∃ res,ao P g args [] res []∧iO args=true∧gT res=true∧K (σ.put dst res)
def rp (P:Program) (t:TypeId) (dst:Option Tmp) (K:St→Prop) (σ:St):AV→Prop
  | .db cells=>(ty P t).kind≠99∧lB (ty P t) cells 0 fun v=>K (σ.put dst v)
  | _=>False
def kX (q:Bool) (P:Program) (o:Oper) (σ:St) (K:St→Prop):Prop :=
  match q with
  | false=>bf P o σ K
  | true =>
    match o.op with
    | .call { callee:=.value f,args,.. } =>
      match ev σ f with
      | .fn g bk=>GM P g (args.toList.map (ev σ)++bk) o.dst K σ
      | _=>False
    | .load t a=>rp P t o.dst K σ (ev σ a)
    | _=>False
theorem XU {o:Oper} {σ:St} {K:St→Prop} {t:TypeId} {a:Operand} (cT:o.op=.load t a) (h:rp P t o.dst K σ (ev σ a)):bf P o σ K:=by
  unfold bf
  simp only[cT]
  unfold b8
  simp only[cT]
  unfold rp at h
  split at h
  · rename_i cells he
    simp only[he]
    exact h
  · exact h.elim
theorem GO {t:TypeId} {dst:Option Tmp} {K:St→Prop} {σ:St} {v:AV} (h:rp P t dst K σ v) :∃x,K (σ.put dst x)∧∀ (σ2:St) (K2:St→Prop),K2 (σ2.put dst x)→rp P t dst K2 σ2 v:=by
  unfold rp at h
  split at h
  · rename_i cells
    obtain ⟨h1,h2⟩:=h
    unfold lB at h2
    split at h2
    · rename_i ha
      refine⟨_,h2.2,fun σ2 K2 hK=>?_⟩
      unfold rp lB
      simp only
      rw[if_pos ha]
      exact⟨h1,h2.1,hK⟩
    · rename_i ha
      split at h2
      · rename_i x hx
        refine⟨x,h2,fun σ2 K2 hK=>?_⟩
        unfold rp lB
        simp only
        rw[if_neg ha,hx]
        exact⟨h1,hK⟩
      · exact h2.elim
  · exact h.elim
def nS (q:Bool) (P:Program) (o:Oper) (K:St→Prop) (b want:Bool) (σ:St):Prop:=(b=want→kX q P o σ K)∧(b≠want→K (σ.put o.dst (.lit (.tuple #[]))))
def dV (P:Program) (ops:Array Oper) (q:Bool) (o:Oper) (K:St→Prop) (σ:St):Prop :=
  match o.guard with
  | none=>kX q P o σ K
  | some (j,want) =>
    match (ops[j]?).bind (·.dst) with
    | none=>False
    | some d =>
      match σ.env d with
      | .lit (.bool b)=>nS q P o K b want σ
      | .lit (.tuple vs)=>vs = #[]∧K (σ.put o.dst (.lit (.tuple #[])))
      | _=>False
theorem Me {q:Bool} {o:Oper} {σ:St} {K:St→Prop} (h:kX q P o σ K):bf P o σ K:=by
  cases q with
  | false=>exact h
  | true =>
    unfold kX at h
    simp only at h
    unfold bf
    split at h
    · rename_i f args fc cT
      simp only[cT]
      split at h
      · rename_i g bk he
        simp only[he]
        obtain ⟨res,h1,h2,h3,h4⟩:=h
        exact bW h1 h2 h3 h4
      · exact h.elim
    · rename_i t a cT
      have:=XU cT h
      unfold bf at this
      simpa only[cT] using this
    · exact h.elim
theorem Mf {N:Nat} {os:List Ob} {γ0:Cx} {ops:Array Oper} (hd:∀ o∈ops.toList,∀ d,o.dst=some d→d<N) {q:Bool} {i:Nat} {o:Oper} (hi:ops[i]?=some o) {σ:St} {K:St→Prop}
    (h:dV P ops q o K σ) {a:Act} {w:World} (aQ:gA N os γ0 σ a w) {Q:Exit→Act→World→Prop} {next:Act→World→Prop} (hn:∀ σ' a' w',K σ'→gA N os γ0 σ' a' w'→next a' w'):wpOp P ops Q i next a w:=by
  have cp:o∈ops.toList:=gw (by simpa using hi)
  unfold wpOp
  simp only[hi]
  unfold dV at h
  cases hg:o.guard with
  | none =>
    simp only[hg] at h
    have hw:Region.wanted o (yielded ops a.tmps)=true:=by simp[Region.wanted,hg]
    rw[if_pos hw]
    left
    exact wO (Me h) aQ (hd o cp) hn
  | some jw =>
    obtain ⟨j,want⟩:=jw
    simp only[hg] at h
    cases ep:(ops[j]?).bind (·.dst) with
    | none=>simp[ep] at h
    | some d =>
      simp only[ep] at h
      split at h
      · rename_i b he
        obtain ⟨ig,aW,γ,rfl,ha,hs,hf⟩:=aQ
        have jd:=hs.av d
        rw[he,ha] at jd
        have hv:=jd.cH
        have hy:yielded ops a.tmps j=some b:=by
          unfold yielded
          rw[ep]
          have:a.tmps[d]?=some (.bool b):=by
            rw[eQ] at hv
            cases hx:a.tmps[d]? with
            | none=>rw[hx] at hv;simp[Go.undef] at hv
            | some y=>rw[hx] at hv;simp at hv;rw[hv]
          simp[this]
        by_cases gY:b=want
        · have hw:Region.wanted o (yielded ops a.tmps)=true:=by simp[Region.wanted,hg,hy,gY]
          rw[if_pos hw]
          left
          exact wO (Me (h.1 gY)) ⟨ig,aW,γ,rfl,ha,hs,hf⟩ (hd o cp) hn
        · have hw:Region.wanted o (yielded ops a.tmps)=false:=by simp[Region.wanted,hg,hy,gY]
          rw[if_neg (by rw[hw];simp)]
          refine hn _ _ _ (h.2 gY) ⟨by rw[put_defers];exact ig,by rw[sH];exact aW,{ γ with tmps:=(a.put o.dst Go.undef).tmps },rfl,rfl,qg hs ha (fun d h=>by rw[aW];exact hd o cp d h) (.lit _),?_⟩
          rw[qh];exact hf.put _
      · rename_i vs he
        obtain ⟨ig,aW,γ,rfl,ha,hs,hf⟩:=aQ
        have jd:=hs.av d
        rw[he,ha] at jd
        have hv:=jd.cH
        have hy:yielded ops a.tmps j=none:=by
          unfold yielded
          rw[ep]
          rw[eQ] at hv
          cases hx:a.tmps[d]? with
          | none=>simp[hx]
          | some y=>rw[hx] at hv;simp at hv;subst hv;simp[hx]
        have hw:Region.wanted o (yielded ops a.tmps)=false:=by simp[Region.wanted,hg,hy]
        rw[if_neg (by rw[hw];simp)]
        refine hn _ _ _ h.2 ⟨by rw[put_defers];exact ig,by rw[sH];exact aW,{ γ with tmps:=(a.put o.dst Go.undef).tmps },rfl,rfl,qg hs ha (fun d h=>by rw[aW];exact hd o cp d h) (.lit _),?_⟩
        rw[qh];exact hf.put _
      · exact h.elim
theorem Dl (c:Nat) (a:List Ob):j' c a a:=by
  unfold j'
  split
  · rfl
  · split
    · intro id _;rfl
    · split
      · exact⟨rfl,fun id o o' h h'=>by rw[h] at h';simp at h';subst h';exact wP o⟩
      · trivial
theorem bV.aa {σ σ2:St} (h:σ2.aa=σ.aa) {kp:Nat→Prop} {c d:AV} (ha:bV σ kp c d):bV σ2 kp c d:=by
  induction ha with
  | lit x=>exact .lit x
  | tree s r=>exact .tree s r
  | nil sz=>exact .nil sz
  | ref id sz off len rows fT g aZ qj hl0 Dm sI ql ih=>exact .ref id sz off len rows fT g (by rw[h];exact aZ) qj hl0 Dm sI ih
theorem aN.aa {σ σ2:St} (h:σ2.aa=σ.aa) {kp:Nat→Prop} {ρ:Nat→Nat} {snap:Bool} {c d:AV} (ha:aN σ kp ρ snap c d):aN σ2 kp ρ snap c d:=by
  induction ha with
  | same v=>exact .same v
  | snap c d hs hf=>exact .snap c d hs (hf.aa h)
  | agg cs ds hl _ ih=>exact .agg cs ds hl ih
  | bL cs ds hl _ ih=>exact .bL cs ds hl ih
def fE (q:Bool) (o:Oper):Nat:=if q then 0 else cls o.op
theorem tZ {ops:Array Oper} {o:Oper} {σ:St} {e2:Nat→AV} {os:List Ob} (h:∀ t∈o.looksAt ops,e2 t=σ.env t):∀ x∈o.op.operands.toList,ev ⟨e2,os⟩ x=ev σ x:=by
  intro x hx
  cases x with
  | tmp t =>
    show e2 t=σ.env t
    refine h t ?_
    unfold Oper.looksAt
    rw[cy]
    left
    rw[List.mem_filterMap]
    exact⟨_,hx,rfl⟩
  | const v=>rfl
  | func f=>rfl
  | global g=>rfl
theorem XV {σ:St} {v:AV} {K:FuncId→AV→Prop} {r:Option (FuncId × Option TypeId)} (h:nN P σ v K r) :
    ∃ g x,K g x∧∀ (e2:Nat→AV) (K2:FuncId→AV→Prop),K2 g x→nN P ⟨e2,σ.aa⟩ v K2 r:=by
  match r,h with
  | none,h=>exact h.elim
  | some (g,none),h=>exact⟨g,v,h,fun _ _ h=>h⟩
  | some (g,some e),h =>
    unfold nN at h
    obtain ⟨hk,h⟩:=h
    cases v with
    | ptr id rr c =>
      simp only at h
      cases a6:rowOf σ id rr with
      | none=>simp[a6] at h
      | some row =>
        simp only[a6] at h
        obtain ⟨x,h1,h2⟩:=Mg h
        refine⟨g,x,h1,fun e2 K2 hK=>?_⟩
        unfold nN
        have:rowOf ⟨e2,σ.aa⟩ id rr=some row:=a6
        simp only[this]
        exact⟨hk,h2 _ hK⟩
    | _=>exact h.elim
theorem XW {o:Oper} {σ:St} {K:St→Prop} (hW:bf P o σ K) :
    ∃ v os,j' (cls o.op) σ.aa os∧K ((⟨σ.env,os⟩:St).put o.dst v)∧∀ (e2:Nat→AV) (K2:St→Prop),(∀ x∈o.op.operands.toList,ev ⟨e2,σ.aa⟩ x=ev σ x)→K2 ((⟨e2,os⟩:St).put o.dst v)→bf P o ⟨e2,σ.aa⟩ K2:=by
  unfold bf at hW ⊢
  split at hW
  · rename_i f args fc cT
    simp only[cT]
    split at hW
    · rename_i g bk he
      obtain ⟨aj,snap,cW,bM,res,cz,h1,⟨h2,h3,h4,h5,h6,h7⟩,h8⟩:=hW
      refine⟨_,_,(by simp[j',cls]),h8,fun e2 K2 hx hK=>?_⟩
      have e1:ev ⟨e2,σ.aa⟩ f=.fn g bk:=by rw[← he];exact hx f (by simp[Op.operands,Call.operands])
      have e3:args.toList.map (ev ⟨e2,σ.aa⟩)=args.toList.map (ev σ):=lP fun y hy=>hx y (by simp only[Op.operands,Call.operands,yu,cy];exact .inr hy)
      simp only[e1,e3]
      exact⟨aj,snap,cW,bM,res,cz,h1,⟨h2,h3,h4,h5,fun j c d hc hd=>aN.aa (σ:=σ) (σ2:=⟨e2,σ.aa⟩) rfl (h6 j c d hc hd),h7⟩,hK⟩
    · exact hW.elim
  · rename_i r m args fc cT
    simp only[cT]
    split at hW
    · rename_i t v he
      obtain ⟨g,x,⟨aj,snap,cW,bM,res,cz,h1,⟨h2,h3,h4,h5,h6,h7⟩,h8⟩,XX⟩:=XV hW
      refine⟨_,_,(by simp[j',cls]),h8,fun e2 K2 hx hK=>?_⟩
      have e1:ev ⟨e2,σ.aa⟩ r=.gz t v:=by rw[← he];exact hx r (by simp[Op.operands,Call.operands])
      have e3:args.toList.map (ev ⟨e2,σ.aa⟩)=args.toList.map (ev σ):=lP fun y hy=>hx y (by simp only[Op.operands,Call.operands,yu,cy];exact .inr hy)
      simp only[e1,e3]
      exact XX e2 _ ⟨aj,snap,cW,bM,res,cz,h1,⟨h2,h3,h4,h5,fun j c d hc hd=>aN.aa (σ:=σ) (σ2:=⟨e2,σ.aa⟩) rfl (h6 j c d hc hd),h7⟩,hK⟩
    · exact hW.elim
  · rename_i dL
    obtain ⟨v,os,h1,h2,h3⟩:=XZ hW
    refine⟨v,os,h1,h2,fun e2 K2 hx hK=>?_⟩
    have:=h3 e2 K2 hx hK
    exact this
theorem X1 {o:Oper} {σ:St} {K:St→Prop} (hc:cls o.op≤2) (hW:bf P o σ K) :
    ∃ v,K (σ.put o.dst v)∧∀ (σ2:St) (K2:St→Prop),(∀ x∈o.op.operands.toList,ev σ2 x=ev σ x)→(∀ (id:Nat),iP (cls o.op) σ.aa[id]? σ2.aa[id]?)→K2 (σ2.put o.dst v)→bf P o σ2 K2:=by
  unfold bf at hW ⊢
  split at hW
  · rename_i f args fc cT
    rw[cT] at hc
    simp[cls] at hc
  · rename_i r m args fc cT
    rw[cT] at hc
    simp[cls] at hc
  · rename_i dL
    obtain ⟨v,h2,h3⟩:=Mh hc hW
    refine⟨v,h2,fun σ2 K2 hx ho hK=>?_⟩
    exact h3 σ2 K2 hx (fun x _ id _=>ho id) hK
theorem Mi {q:Bool} {o:Oper} {σ:St} {K:St→Prop} (hW:kX q P o σ K) :
    ∃ v os,j' (fE q o) σ.aa os∧K ((⟨σ.env,os⟩:St).put o.dst v)∧∀ (e2:Nat→AV) (K2:St→Prop),(∀ x∈o.op.operands.toList,ev ⟨e2,σ.aa⟩ x=ev σ x)→K2 ((⟨e2,os⟩:St).put o.dst v)→kX q P o ⟨e2,σ.aa⟩ K2:=by
  cases q with
  | false=>exact XW hW
  | true =>
    unfold kX at hW ⊢
    simp only at hW ⊢
    split at hW
    · rename_i f args fc cT
      simp only[cT]
      split at hW
      · rename_i g bk he
        obtain ⟨res,h1,h2,h3,h4⟩:=hW
        refine⟨res,σ.aa,Dl _ _,h4,fun e2 K2 hx hK=>?_⟩
        have e1:ev ⟨e2,σ.aa⟩ f=.fn g bk:=by rw[← he];exact hx f (by simp[Op.operands,Call.operands])
        have e3:args.toList.map (ev ⟨e2,σ.aa⟩)=args.toList.map (ev σ):=lP fun y hy=>hx y (by simp only[Op.operands,Call.operands,yu,cy];exact .inr hy)
        simp only[e1,e3]
        exact⟨res,h1,h2,h3,hK⟩
      · exact hW.elim
    · rename_i t a cT
      obtain ⟨x,h1,h2⟩:=GO hW
      refine⟨x,σ.aa,Dl _ _,h1,fun e2 K2 hx hK=>?_⟩
      rw[hx a (by simp[cT,Op.operands])]
      exact h2 _ K2 hK
    · exact hW.elim
theorem Mj {q:Bool} {o:Oper} {σ:St} {K:St→Prop} (hc:fE q o≤2) (hW:kX q P o σ K) :
    ∃ v,K (σ.put o.dst v)∧∀ (σ2:St) (K2:St→Prop),(∀ x∈o.op.operands.toList,ev σ2 x=ev σ x)→(∀ (id:Nat),iP (fE q o) σ.aa[id]? σ2.aa[id]?)→K2 (σ2.put o.dst v)→kX q P o σ2 K2:=by
  cases q with
  | false=>exact X1 hc hW
  | true =>
    unfold kX at hW ⊢
    simp only at hW ⊢
    split at hW
    · rename_i f args fc cT
      simp only[cT]
      split at hW
      · rename_i g bk he
        obtain ⟨res,h1,h2,h3,h4⟩:=hW
        refine⟨res,h4,fun σ2 K2 hx _ hK=>?_⟩
        have e1:ev σ2 f=.fn g bk:=by rw[← he];exact hx f (by simp[Op.operands,Call.operands])
        have e3:args.toList.map (ev σ2)=args.toList.map (ev σ):=lP fun y hy=>hx y (by simp only[Op.operands,Call.operands,yu,cy];exact .inr hy)
        simp only[e1,e3]
        exact⟨res,h1,h2,h3,hK⟩
      · exact hW.elim
    · rename_i t a cT
      obtain ⟨x,h1,h2⟩:=GO hW
      refine⟨x,h1,fun σ2 K2 hx _ hK=>?_⟩
      rw[hx a (by simp[cT,Op.operands])]
      exact h2 _ K2 hK
    · exact hW.elim
theorem uc {ops:Array Oper} {o:Oper} {j d:Nat} {want:Bool} (hg:o.guard=some (j,want)) (hd:(ops[j]?).bind (·.dst)=some d):d∈o.looksAt ops:=by
  unfold Oper.looksAt
  rw[cy]
  right
  simp[hg,hd]
theorem AH {ops:Array Oper} {q:Bool} {o:Oper} {σ:St} {K:St→Prop} (hW:dV P ops q o K σ) :
    ∃ v os,j' (fE q o) σ.aa os∧K ((⟨σ.env,os⟩:St).put o.dst v)∧∀ (e2:Nat→AV) (K2:St→Prop),(∀ t∈o.looksAt ops,e2 t=σ.env t)→K2 ((⟨e2,os⟩:St).put o.dst v)→dV P ops q o K2 ⟨e2,σ.aa⟩:=by
  unfold dV at hW ⊢
  cases hg:o.guard with
  | none =>
    simp only[hg] at hW
    obtain ⟨v,os,h1,h2,h3⟩:=Mi hW
    exact⟨v,os,h1,h2,fun e2 K2 hl hK=>h3 e2 K2 (tZ hl) hK⟩
  | some jw =>
    obtain ⟨j,want⟩:=jw
    simp only[hg] at hW
    cases ep:(ops[j]?).bind (·.dst) with
    | none=>simp[ep] at hW
    | some d =>
      simp only[ep] at hW
      split at hW
      · rename_i b he
        by_cases gY:b=want
        · obtain ⟨v,os,h1,h2,h3⟩:=Mi (hW.1 gY)
          refine⟨v,os,h1,h2,fun e2 K2 hl hK=>?_⟩
          have:e2 d=.lit (.bool b):=by rw[hl d (uc hg ep)];exact he
          simp only[ep,this]
          exact⟨fun _=>h3 e2 K2 (tZ hl) hK,fun hn=>absurd gY hn⟩
        · refine⟨.lit (.tuple #[]),σ.aa,Dl _ _,hW.2 gY,fun e2 K2 hl hK=>?_⟩
          have:e2 d=.lit (.bool b):=by rw[hl d (uc hg ep)];exact he
          simp only[ep,this]
          exact⟨fun hn=>absurd hn gY,fun _=>hK⟩
      · rename_i vs he
        refine⟨.lit (.tuple #[]),σ.aa,Dl _ _,hW.2,fun e2 K2 hl hK=>?_⟩
        have:e2 d=.lit (.tuple vs):=by rw[hl d (uc hg ep)];exact he
        simp only[ep,this]
        exact⟨hW.1,hK⟩
      · exact hW.elim
theorem Mk {ops:Array Oper} {q:Bool} {o:Oper} {σ:St} {K:St→Prop} (hc:fE q o≤2) (hW:dV P ops q o K σ) :
    ∃ v,K (σ.put o.dst v)∧∀ (σ2:St) (K2:St→Prop),(∀ t∈o.looksAt ops,σ2.env t=σ.env t)→(∀ (id:Nat),iP (fE q o) σ.aa[id]? σ2.aa[id]?)→K2 (σ2.put o.dst v)→dV P ops q o K2 σ2:=by
  unfold dV at hW ⊢
  cases hg:o.guard with
  | none =>
    simp only[hg] at hW
    obtain ⟨v,h2,h3⟩:=Mj hc hW
    exact⟨v,h2,fun σ2 K2 hl ho hK=>h3 σ2 K2 (tZ (e2:=σ2.env) (os:=σ2.aa) hl) ho hK⟩
  | some jw =>
    obtain ⟨j,want⟩:=jw
    simp only[hg] at hW
    cases ep:(ops[j]?).bind (·.dst) with
    | none=>simp[ep] at hW
    | some d =>
      simp only[ep] at hW
      split at hW
      · rename_i b he
        by_cases gY:b=want
        · obtain ⟨v,h2,h3⟩:=Mj hc (hW.1 gY)
          refine⟨v,h2,fun σ2 K2 hl ho hK=>?_⟩
          have:σ2.env d=.lit (.bool b):=by rw[hl d (uc hg ep)];exact he
          simp only[ep,this]
          exact⟨fun _=>h3 σ2 K2 (tZ (e2:=σ2.env) (os:=σ2.aa) hl) ho hK,fun hn=>absurd gY hn⟩
        · refine⟨.lit (.tuple #[]),hW.2 gY,fun σ2 K2 hl ho hK=>?_⟩
          have:σ2.env d=.lit (.bool b):=by rw[hl d (uc hg ep)];exact he
          simp only[ep,this]
          exact⟨fun hn=>absurd hn gY,fun _=>hK⟩
      · rename_i vs he
        refine⟨.lit (.tuple #[]),hW.2,fun σ2 K2 hl ho hK=>?_⟩
        have:σ2.env d=.lit (.tuple vs):=by rw[hl d (uc hg ep)];exact he
        simp only[ep,this]
        exact⟨hW.1,hK⟩
      · exact hW.elim
theorem vu {σ:St} {dst:Option Tmp} {v:AV} {t:Nat} (h:∀ d,dst=some d→d≠t):(σ.put dst v).env t=σ.env t:=by
  cases dst with
  | none=>rfl
  | some d =>
    have:=h d rfl
    simp[St.put,iG,Ne.symm this]
theorem Dp {σ:St} {x y:Option Tmp} {v u:AV} (h:∀ d,x=some d→y≠some d):(σ.put x v).put y u=(σ.put y u).put x v:=by
  cases x with
  | none=>rfl
  | some d =>
    cases y with
    | none=>rfl
    | some d' =>
      have dL:d'≠d:=fun e=>h d rfl (by rw[e])
      simp only[St.put]
      congr 1
      funext k
      simp only[iG]
      split<;>split<;>simp_all
theorem Dq {σ:St} {x:Option Tmp} {v:AV}:(σ.put x v).aa=σ.aa:=by cases x<;>rfl
theorem Ml {σ:St} {x:Option Tmp} {v:AV}:σ.put x v=⟨(σ.put x v).env,σ.aa⟩:=by cases x<;>rfl
theorem Dr {σ:St} {os:List Ob} {x:Option Tmp} {v:AV}:(⟨(σ.put x v).env,os⟩:St)=(⟨σ.env,os⟩:St).put x v:=by cases x<;>rfl
def yL (ci ck:Nat):Bool:=ci == 0 || ck == 0 || (ci == 1 && decide (ck≤4)) || (ci == 2 && decide (ck≤3))
theorem Mm {ci ck:Nat} (h:(ci == 0 || (ci == 1 && decide (ck≤4)) || (ci == 2 && decide (ck≤3)))=true) {a b:List Ob} (he:j' ck a b) (id:Nat):iP ci a[id]? b[id]?:=by
  simp only[kB,bh,beq_iff_eq,decide_eq_true_eq] at h
  rcases h with (rfl | ⟨rfl,hk⟩) | ⟨rfl,hk⟩
  · simp[iP]
  · unfold j' at he
    have:∀ o,a[id]?=some o→∃ o',b[id]?=some o'∧rq o o':=by
      intro o ho
      have bj:=(aS.1 ho).1
      split at he
      · subst he;exact⟨o,ho,wP o⟩
      · split at he
        · exact⟨o,by rw[he id bj];exact ho,wP o⟩
        · split at he
          · have hb:id<b.length:=by omega
            exact⟨b[id],by simp[hb],he.2 id o _ ho (by simp[hb])⟩
          · omega
    simpa [iP] using this
  · unfold j' at he
    have:∀ o,a[id]?=some o→b[id]?=some o:=by
      intro o ho
      have bj:=(aS.1 ho).1
      split at he
      · subst he;exact ho
      · split at he
        · rw[he id bj];exact ho
        · omega
    simpa [iP] using this
theorem X6 {ops:Array Oper} {qi qk:Bool} {oi ok:Oper} (ha:oi.apart ops ok=true) (hi:fE qi oi≤2)
    (hc:(fE qi oi == 0 || (fE qi oi == 1 && decide (fE qk ok≤4)) || (fE qi oi == 2 && decide (fE qk ok≤3)))=true) {σ:St} {K:St→Prop}
    (h:dV P ops qi oi (dV P ops qk ok K) σ):dV P ops qk ok (dV P ops qi oi K) σ:=by
  obtain ⟨a1,a2,a3⟩:=Oper.apart_spec ha
  obtain ⟨v,h1,run⟩:=Mk hi h
  obtain ⟨vk,os,wQ,h2,AI⟩:=AH h1
  rw[Dq] at wQ AI
  refine AI σ.env _ (fun t ht=>(vu fun d hd e=>a1 d hd (e ▸ ht)).symm) ?_
  refine run _ _ (fun t ht=>?_) (fun id=>?_) ?_
  · rw[vu fun d hd e=>a3 d hd (e ▸ ht)]
  · rw[Dq];exact Mm hc wQ id
  · rw[Dr] at h2
    rw[Dp (fun d hd e=>a2 d e hd)]
    exact h2
theorem X7 {ops:Array Oper} {qi qk:Bool} {oi ok:Oper} (ha:oi.apart ops ok=true) (hk:fE qk ok=0) {σ:St} {K:St→Prop}
    (h:dV P ops qi oi (dV P ops qk ok K) σ):dV P ops qk ok (dV P ops qi oi K) σ:=by
  obtain ⟨a1,a2,a3⟩:=Oper.apart_spec ha
  obtain ⟨vi,os,wQ,h1,run⟩:=AH h
  obtain ⟨vk,h2,GP⟩:=Mk (by omega) h1
  refine GP σ _ (fun t ht=>(vu (σ:=⟨σ.env,os⟩) fun d hd e=>a1 d hd (e ▸ ht)).symm) (fun id=>by rw[hk];simp[iP]) ?_
  rw[Ml]
  refine run _ _ (fun t ht=>vu fun d hd e=>a3 d hd (e ▸ ht)) ?_
  rw[Dr,Dp (fun d hd e=>a2 d e hd)]
  exact h2
theorem X8 {ops:Array Oper} {qi qk:Bool} {oi ok:Oper} (ha:oi.apart ops ok=true) (hc:yL (fE qi oi) (fE qk ok)=true) {σ:St} {K:St→Prop}
    (h:dV P ops qi oi (dV P ops qk ok K) σ):dV P ops qk ok (dV P ops qi oi K) σ:=by
  by_cases hk:fE qk ok=0
  · exact X7 ha hk h
  · have jA:(fE qi oi == 0 || (fE qi oi == 1 && decide (fE qk ok≤4)) || (fE qi oi == 2 && decide (fE qk ok≤3)))=true:=by
      simp only[yL,kB,bh,beq_iff_eq,decide_eq_true_eq] at hc ⊢
      rcases hc with ((h | h) | h) | h
      · exact .inl (.inl h)
      · exact absurd h hk
      · exact .inl (.inr h)
      · exact .inr h
    refine X6 ha ?_ jA h
    simp only[kB,bh,beq_iff_eq,decide_eq_true_eq] at jA
    omega
end Go.Am
namespace Go.Am
variable {P:Program} {N n0:Nat} {σ:St}
def cO (P:Program) (ops:Array Oper) (qs:List Nat) (i:Nat) (K:St→Prop) (σ:St):Prop :=
  match ops[i]? with
  | none=>K σ
  | some o=>dV P ops (qs.contains i) o K σ
def sJ (P:Program) (ops:Array Oper) (qs:List Nat) (K:St→Prop):Nat→Array Bool→St→Prop
  | 0,aR,σ=>Region.ready .any ops aR=[]∧K σ
  | n+1,aR,σ=>(Region.ready .any ops aR=[]→K σ)∧∀ i∈Region.ready .any ops aR,cO P ops qs i (sJ P ops qs K n (aR.setIfInBounds i true)) σ
theorem AJ {ops:Array Oper} {q:Bool} {o:Oper} {σ:St} {K K2:St→Prop} (hk:∀ s,K s→K2 s) (h:dV P ops q o K σ):dV P ops q o K2 σ:=by
  obtain ⟨v,os,_,h2,run⟩:=AH h
  exact run σ.env K2 (fun _ _=>rfl) (hk _ h2)
theorem X9 {ops:Array Oper} {q:Bool} {o:Oper} {σ:St} {K:St→Prop} (h:dV P ops q o K σ) :∃s,K s:=by
  obtain ⟨v,os,_,h2,run⟩:=AH h
  exact⟨_,h2⟩
theorem vv {ops:Array Oper} {qs:List Nat} {i:Nat} {σ:St} {K K2:St→Prop} (hk:∀ s,K s→K2 s) (h:cO P ops qs i K σ):cO P ops qs i K2 σ:=by
  unfold cO at h ⊢
  split at h
  · exact hk _ h
  · exact AJ hk h
theorem Ya {ops:Array Oper} {qs:List Nat} {i:Nat} {σ:St} {K:St→Prop} (h:cO P ops qs i K σ) :∃s,K s:=by
  unfold cO at h
  split at h
  · exact⟨_,h⟩
  · exact X9 h
theorem GQ {os:List Ob} {γ0:Cx} {ops:Array Oper} {qs:List Nat} (hd:∀ o∈ops.toList,∀ d,o.dst=some d→d<N) {K:St→Prop} {Q:Exit→Act→World→Prop}
    (hQ:∀ σ' a' w',K σ'→gA N os γ0 σ' a' w'→Q .normal a' w'):∀ (n:Nat) (aR:Array Bool) (σ:St) (a:Act) (w:World),sJ P ops qs K n aR σ→gA N os γ0 σ a w→wpAny P .any ops Q n aR a w
  | 0,aR,σ,a,w,h,aQ=>⟨h.1,hQ _ _ _ h.2 aQ⟩
  | n+1,aR,σ,a,w,h,aQ=>by
    refine⟨fun hr=>hQ _ _ _ (h.1 hr) aQ,fun i hi=>?_⟩
    have:=h.2 i hi
    unfold cO at this
    split at this
    · rename_i hi'
      unfold wpOp
      simp only[hi']
      exact GQ hd hQ n _ _ _ _ this aQ
    · rename_i o hi'
      exact Mf hd hi' this aQ fun σ' a' w' hK eU=>GQ hd hQ n _ _ _ _ hK eU
theorem Yb {id:Nat} {ops:Array Oper} {Q:Exit→St→Prop} (qs:List Nat) (hm:P.follows .mixedOrders=true) (hd:gm N ops=true)
    (h:sJ P ops qs (Q .normal) ops.size (wC ops.size false) σ):W P N n0 (.region id ops true) Q σ:=by
  intro os γ0 a w _ aQ
  refine wp_region_any hm ?_
  exact GQ (qm hd) (K:=Q .normal) (fun σ' a' w' hK eU=>⟨σ',hK,eU⟩) _ _ _ _ _ h aQ.drawn
theorem Yc {ops:Array Oper} {qs:List Nat} {K:St→Prop} {i:Nat} {o:Oper} (hi:ops[i]?=some o) (D:List Nat) (Yd:i∈D)
    (hD:∀ j∈D,j=i∨∃ oj,ops[j]?=some oj∧∃ e∈oj.after,Region.binds .any e=true∧e.on∈D):∀ (fuel:Nat) (aR:Array Bool) (σ:St),(∀ j∈D,aR.getD j true=false) →
      i∈Region.ready .any ops aR →
      (∀ j oj,ops[j]?=some oj→aR.getD j true=false→j ∉ D→o.apart ops oj=true∧yL (fE (qs.contains i) o) (fE (qs.contains j) oj)=true) →
      cO P ops qs i (sJ P ops qs K fuel (aR.setIfInBounds i true)) σ→sJ P ops qs K (fuel+1) aR σ:=by
  intro fuel
  induction fuel with
  | zero =>
    intro aR σ hu hr m6 h
    refine⟨fun e=>by rw[e] at hr;simp at hr,fun k hk=>?_⟩
    by_cases gZ:k=i
    · subst gZ;exact h
    · obtain ⟨s,hs⟩:=Ya h
      have:=ready_mono hk gZ
      rw[hs.1] at this
      simp at this
  | succ m ih =>
    intro aR σ hu hr m6 h
    refine⟨fun e=>by rw[e] at hr;simp at hr,fun k hk=>?_⟩
    by_cases gZ:k=i
    · subst gZ;exact h
    · have AK:=mem_ready.1 hk
      obtain ⟨dx,ok,aQ,dW⟩:=AK
      have ud:k ∉ D:=by
        intro ud
        rcases hD k ud with e | ⟨oj,kF,e,he,hb,wR⟩
        · exact gZ e
        · rw[aQ] at kF
          simp only[da.injEq] at kF
          subst kF
          have h1:=dW e he hb
          have h2:=hu e.on wR
          rw[eQ] at h1 h2
          cases hx:aR[e.on]? with
          | none=>rw[hx] at h1;simp at h1
          | some b=>rw[hx] at h1 h2;simp at h1 h2;rw[h1] at h2;simp at h2
      obtain ⟨ha,hc⟩:=m6 k ok aQ dx ud
      have h1:cO P ops qs i (cO P ops qs k (sJ P ops qs K m ((aR.setIfInBounds i true).setIfInBounds k true))) σ :=
        vv (fun s hs=>hs.2 k (ready_mono hk gZ)) h
      have h2:cO P ops qs k (cO P ops qs i (sJ P ops qs K m ((aR.setIfInBounds i true).setIfInBounds k true))) σ:=by
        unfold cO at h1 ⊢
        simp only[hi,aQ] at h1 ⊢
        exact X8 ha hc h1
      refine vv (fun s hs=>?_) h2
      refine ih (aR.setIfInBounds k true) s (fun j hj=>?_) (ready_mono hr (Ne.symm gZ)) (fun j oj kF hl qn=>?_) ?_
      · have dL:k≠j:=fun e=>ud (by rw[e];exact hj)
        rw[getD_set_ne _ dL];exact hu j hj
      · refine m6 j oj kF ?_ qn
        by_cases AL:k=j
        · subst AL;exact dx
        · rwa [getD_set_ne _ AL] at hl
      · rw[Array.setIfInBounds_comm _ _ (Ne.symm gZ)] at hs
        exact hs
def GR (ops:Array Oper) (i:Nat):List Nat :=
  (aT ops.size).foldl (fun D j=>if j == i || (match ops[j]? with | some oj=>oj.after.any (fun e=>Region.binds .any e && D.contains e.on) | none=>false) then D++[j] else D) []
def Ds (ops:Array Oper) (qs:List Nat) (aR:Array Bool) (i:Nat) (D:List Nat):Bool :=
  match ops[i]? with
  | none=>false
  | some o =>
    D.contains i && D.all (fun j=>j == i || match ops[j]? with | some oj=>oj.after.any (fun e=>Region.binds .any e && D.contains e.on) | none=>false) &&
    D.all (fun j=>!aR.getD j true) && o.after.all (fun e=>!Region.binds .any e || aR.getD e.on false) &&
    (aT ops.size).all fun j=>D.contains j || aR.getD j true || match ops[j]? with | some oj=>o.apart ops oj && yL (fE (qs.contains i) o) (fE (qs.contains j) oj) | none=>true
theorem Ye {ops:Array Oper} {qs:List Nat} {K:St→Prop} {i:Nat} {D:List Nat} {fuel:Nat} {aR:Array Bool} (h:Ds ops qs aR i D=true)
    (hs:cO P ops qs i (sJ P ops qs K fuel (aR.setIfInBounds i true)) σ):sJ P ops qs K (fuel+1) aR σ:=by
  unfold Ds at h
  cases hi:ops[i]? with
  | none=>simp[hi] at h
  | some o =>
    simp only[hi,bh,List.all_eq_true,q9,kB,beq_iff_eq,Bool.not_eq_true'] at h
    obtain ⟨⟨⟨⟨h1,h2⟩,h3⟩,h4⟩,h5⟩:=h
    refine Yc hi D h1 (fun j hj=>?_) fuel aR σ h3 ?_ ?_ hs
    · rcases h2 j hj with h | h
      · exact .inl h
      · right
        split at h
        · rename_i oj kF
          rw[Array.any_eq_true'] at h
          obtain ⟨e,he,hb⟩:=h
          simp only[bh,q9] at hb
          exact⟨oj,kF,e,he,hb.1,hb.2⟩
        · simp at h
    · rw[mem_ready]
      refine⟨h3 i h1,o,hi,fun e he hb=>?_⟩
      rw[Array.all_eq_true'] at h4
      have:=h4 e he
      simpa [hb] using this
    · intro j oj kF hl qn
      have hj:j<ops.size:=(Array.getElem?_eq_some_iff.1 kF).1
      rcases h5 j (List.mem_range.2 hj) with (h | h) | h
      · exact absurd h qn
      · rw[hl] at h;simp at h
      · simpa [kF] using h
inductive PT where
  | nil
  | take (i:Nat) (t:PT)
  | both (i:Nat) (t:PT) (j:Nat) (u:PT)
  | three (i:Nat) (t:PT) (j:Nat) (u:PT) (k:Nat) (v:PT)
def PT.ok (ops:Array Oper) (qs:List Nat):PT→Nat→Array Bool→Bool
  | .nil,n,aR=>n == 0 && (Region.ready .any ops aR).isEmpty
  | .take _ _,0,_=>false
  | .take i t,n+1,aR=>Ds ops qs aR i (GR ops i) && t.ok ops qs n (aR.setIfInBounds i true)
  | .both _ _ _ _,0,_=>false
  | .both i t j u,n+1,aR=>(Region.ready .any ops aR == [i,j]) && t.ok ops qs n (aR.setIfInBounds i true) && u.ok ops qs n (aR.setIfInBounds j true)
  | .three _ _ _ _ _ _,0,_=>false
  | .three i t j u k v,n+1,aR=>(Region.ready .any ops aR == [i,j,k]) && t.ok ops qs n (aR.setIfInBounds i true) && u.ok ops qs n (aR.setIfInBounds j true) && v.ok ops qs n (aR.setIfInBounds k true)
def iQ (P:Program) (ops:Array Oper) (qs:List Nat):PT→(St→Prop)→St→Prop
  | .nil,K,σ=>K σ
  | .take i t,K,σ=>cO P ops qs i (iQ P ops qs t K) σ
  | .both i t j u,K,σ=>cO P ops qs i (iQ P ops qs t K) σ∧cO P ops qs j (iQ P ops qs u K) σ
  | .three i t j u k v,K,σ=>cO P ops qs i (iQ P ops qs t K) σ∧cO P ops qs j (iQ P ops qs u K) σ∧cO P ops qs k (iQ P ops qs v K) σ
theorem wS {ops:Array Oper} {qs:List Nat} {K:St→Prop}:∀ (t:PT) (n:Nat) (aR:Array Bool) (σ:St),t.ok ops qs n aR=true→iQ P ops qs t K σ→sJ P ops qs K n aR σ
  | .nil,n,aR,σ,h,hp=>by
    simp only[PT.ok,bh,beq_iff_eq,List.isEmpty_iff] at h
    obtain ⟨rfl,h⟩:=h
    exact⟨h,hp⟩
  | .take _ _,0,_,_,h,_=>by simp[PT.ok] at h
  | .take i t,n+1,aR,σ,h,hp=>by
    simp only[PT.ok,bh] at h
    exact Ye h.1 (vv (fun s hs=>wS t n _ s h.2 hs) hp)
  | .both _ _ _ _,0,_,_,h,_=>by simp[PT.ok] at h
  | .both i t j u,n+1,aR,σ,h,hp=>by
    simp only[PT.ok,bh,beq_iff_eq] at h
    obtain ⟨⟨h1,h2⟩,h3⟩:=h
    refine⟨fun e=>by rw[h1] at e;simp at e,fun k hk=>?_⟩
    rw[h1] at hk
    simp only[bZ,kC,or_false] at hk
    rcases hk with rfl | rfl
    · exact vv (fun s hs=>wS t n _ s h2 hs) hp.1
    · exact vv (fun s hs=>wS u n _ s h3 hs) hp.2
  | .three _ _ _ _ _ _,0,_,_,h,_=>by simp[PT.ok] at h
  | .three i t j u k v,n+1,aR,σ,h,hp=>by
    simp only[PT.ok,bh,beq_iff_eq] at h
    obtain ⟨⟨⟨h1,h2⟩,h3⟩,h4⟩:=h
    refine⟨fun e=>by rw[h1] at e;simp at e,fun x hk=>?_⟩
    rw[h1] at hk
    simp only[bZ,kC,or_false] at hk
    rcases hk with rfl | rfl | rfl
    · exact vv (fun s hs=>wS t n _ s h2 hs) hp.1
    · exact vv (fun s hs=>wS u n _ s h3 hs) hp.2.1
    · exact vv (fun s hs=>wS v n _ s h4 hs) hp.2.2
theorem oT {id:Nat} {ops:Array Oper} {Q:Exit→St→Prop} (qs:List Nat) (t:PT) (hm:P.follows .mixedOrders=true) (hd:gm N ops=true) (ht:t.ok ops qs ops.size (wC ops.size false)=true)
    (h:iQ P ops qs t (Q .normal) σ):W P N n0 (.region id ops true) Q σ :=
  Yb qs hm hd (wS t _ _ σ ht h)
theorem Mn {id:Nat} {ops:Array Oper} {y:Code} {Q:Exit→St→Prop} (qs:List Nat) (t:PT) (hm:P.follows .mixedOrders=true) (hd:gm N ops=true) (ht:t.ok ops qs ops.size (wC ops.size false)=true)
    (h:∀ K:St→Prop,(∀ s,W P N n0 y Q s→K s)→iQ P ops qs t K σ):W P N n0 (.seq (.region id ops true) y) Q σ :=
  GU (oT qs t hm hd ht (h _ (fun _ h=>h)))
theorem vw {ops:Array Oper} {qs:List Nat} {K:St→Prop}:iQ P ops qs .nil K σ=K σ:=rfl
theorem vx {ops:Array Oper} {qs:List Nat} {i:Nat} {t:PT} {K:St→Prop}:iQ P ops qs (.take i t) K σ=cO P ops qs i (iQ P ops qs t K) σ:=rfl
theorem Mo {ops:Array Oper} {qs:List Nat} {i j k:Nat} {t u v:PT} {K:St→Prop}:iQ P ops qs (.three i t j u k v) K σ=(cO P ops qs i (iQ P ops qs t K) σ∧cO P ops qs j (iQ P ops qs u K) σ∧cO P ops qs k (iQ P ops qs v K) σ):=rfl
theorem yM {ops:Array Oper} {qs:List Nat} {i j:Nat} {t u:PT} {K:St→Prop}:iQ P ops qs (.both i t j u) K σ=(cO P ops qs i (iQ P ops qs t K) σ∧cO P ops qs j (iQ P ops qs u K) σ):=rfl
theorem Mp {q:Bool} {o:Oper} {K:St→Prop}:nS q P o K true true σ=kX q P o σ K:=by simp[nS]
theorem Mq {q:Bool} {o:Oper} {K:St→Prop}:nS q P o K false false σ=kX q P o σ K:=by simp[nS]
theorem Mr {q:Bool} {o:Oper} {K:St→Prop}:nS q P o K true false σ=K (σ.put o.dst (.lit (.tuple #[]))):=by simp[nS]
theorem Ms {q:Bool} {o:Oper} {K:St→Prop}:nS q P o K false true σ=K (σ.put o.dst (.lit (.tuple #[]))):=by simp[nS]
theorem Yf {q:Bool} {o:Oper} {K:St→Prop} {b want:Bool} (h1:b=true→nS q P o K true want σ) (h2:b=false→nS q P o K false want σ):nS q P o K b want σ:=by
  cases b
  · exact h2 rfl
  · exact h1 rfl
def iR:List Nat→PT
  | []=>.nil
  | i::r=>.take i (iR r)
end Go.Am
namespace Go.Am
variable {P:Program} {N n0:Nat} {σ:St} {Q:Exit→St→Prop}
def av:List (Nat × AV)→Nat→AV
  | []=>fun _=>.undef
  | p::l=>iG (av l) p.1 p.2
theorem Dt (d:Nat) (v:AV) (l:List (Nat × AV)):av ((d,v)::l)=iG (av l) d v:=rfl
theorem Du (l:List (Nat × AV)) (k:Nat):av l k=.undef∨∃ p∈l,p.1=k∧av l k=p.2:=by
  induction l with
  | nil=>exact .inl rfl
  | cons p l ih =>
    by_cases h:k=p.1
    · right
      exact⟨p,by simp,h.symm,by simp[av,iG,h]⟩
    · have e:av (p::l) k=av l k:=by simp[av,iG,h]
      rw[e]
      rcases ih with h | ⟨q,hq,h1,h2⟩
      · exact .inl h
      · exact .inr ⟨q,by simp[hq],h1,h2⟩
def Has (e:Nat→AV):List (Nat × AV)→Prop
  | []=>True
  | p::l=>e p.1=p.2∧Has e l
theorem Has.mem {e:Nat→AV}:∀ {l:List (Nat × AV)},Has e l→∀ p∈l,e p.1=p.2
  | q::l,h,p,hp=>by
    rcases bZ.1 hp with rfl | hp
    · exact h.1
    · exact Has.mem h.2 p hp
theorem aA.av (l:List (Nat × AV)) (os:List Ob) (ho:σ.aa=os) (h:Has σ.env l):aA n0 σ ⟨av l,os⟩:=by
  subst ho
  refine aA.forget fun k=>?_
  rcases Du l k with h' | ⟨p,hp,rfl,h'⟩
  · exact .inl h'
  · right;rw[h',h.mem p hp]
def nQ (ρ:Nat→Nat) (os:List Ob):List Nat→List Ob→Prop
  | [],[]=>True
  | i::aj,o::co=>(i<os.length∧(o=.gone∨os[i]?=some (bC ρ o)))∧nQ ρ os aj co
  | _,_=>False
theorem nQ.spec {ρ:Nat→Nat} {os:List Ob}:∀ {aj:List Nat} {co:List Ob},nQ ρ os aj co→co.length=aj.length∧(∀ (j:Nat) o,co[j]?=some o→o=.gone∨os[aj.getD j 0]?=some (bC ρ o))∧∀ i∈aj,i<os.length
  | [],[],_=>⟨rfl,by simp,by simp⟩
  | i::aj,o::co,h=>by
    obtain ⟨⟨h1,h2⟩,h3⟩:=h
    obtain ⟨a,b,c⟩:=nQ.spec h3
    refine⟨by simp[a],fun j o' hj=>?_,fun x hx=>?_⟩
    · cases j with
      | zero=>simp at hj;subst hj;simpa using h2
      | succ j=>simpa using b j o' (by simpa using hj)
    · rcases bZ.1 hx with rfl | hx
      · exact h1
      · exact c x hx
def qo (R:AV→AV→Prop) (e:Nat→AV):List (Nat × AV)→Prop
  | []=>True
  | p::l=>R p.2 (e p.1)∧qo R e l
theorem qo.mem {R:AV→AV→Prop} {e:Nat→AV}:∀ {l:List (Nat × AV)},qo R e l→∀ p∈l,R p.2 (e p.1)
  | q::l,h,p,hp=>by
    rcases bZ.1 hp with rfl | hp
    · exact h.1
    · exact qo.mem h.2 p hp
def kept (aj:List Nat) (co:List Ob) (id:Nat):Prop:=∃ j,j<aj.length∧aj.getD j 0=id∧co[j]?≠some .gone
theorem aA.aj (aj:List Nat) (snap:Bool) (l:List (Nat × AV)) (co:List Ob) (bR:aj.Nodup) (ho:nQ (bd σ.aa.length aj) σ.aa aj co) (hn:n0≤aj.length) (cN:∀ i,i<n0→aj.getD i 0=i)
    (h:qo (aN σ (kept aj co) (bd σ.aa.length aj) snap) σ.env l):aA n0 σ ⟨Am.av l,co⟩:=by
  obtain ⟨h1,h2,h3⟩:=ho.spec
  refine aA.select aj snap co _ bR h1 h2 h3 hn cN fun k=>?_
  rcases Du l k with h' | ⟨p,hp,rfl,h'⟩
  · exact .inl h'
  · right;rw[h'];exact h.mem p hp
theorem aN.pure {kp:Nat→Prop} {ρ:Nat→Nat} {snap:Bool} {v:AV} (h:gT v=true):aN σ kp ρ snap v v:=by
  have:=aN.same (σ:=σ) (kp:=kp) (ρ:=ρ) (snap:=snap) v
  rwa [wT _ v h] at this
theorem aN.eq {kp:Nat→Prop} {ρ:Nat→Nat} {snap:Bool} {v u:AV} (h:u=aX ρ v):aN σ kp ρ snap v u:=by
  subst h;exact .same v
theorem bV.flat {kp:Nat→Prop} {id sz len:Nat} {rows:List (List AV)} (ho:σ.aa[id]?=some (.arr sz rows)) (hw:∀ row∈rows,row.length=sz) (hl:len=rows.length) (qj:¬ kp id) (hf:∀ row∈rows,∀ v∈row,(∃ x,v=.lit x)∨∃ s r,v=.tree s r) :
    bV σ kp (.tree sz rows) (.ref id sz 0 len):=by
  refine .ref id sz 0 len rows rows (fun r c=>(cellAt rows r c).getD .undef) ho qj (by simp[hl]) hw (fun r c v hv=>?_) (fun r c v hv=>?_)
  · simp[hl,hv]
  · rw[hv,Option.getD_some]
    simp only[cellAt,Option.bind_eq_some_iff] at hv
    obtain ⟨row,h1,h2⟩:=hv
    rcases hf row (gw h1) v (gw h2) with ⟨x,rfl⟩ | ⟨s,r,rfl⟩
    · exact .lit x
    · exact .tree s r
theorem aN.nil {kp:Nat→Prop} {ρ:Nat→Nat} {sz:Nat}:aN σ kp ρ true (.tree sz []) (.lit (.slice none 0 0)):=.snap _ _ rfl (.nil sz)
theorem aN.cd {kp:Nat→Prop} {ρ:Nat→Nat} {id sz len:Nat} {rows:List (List AV)} (ho:σ.aa[id]?=some (.arr sz rows)) (hw:∀ row∈rows,row.length=sz) (hl:len=rows.length) (qj:¬ kp id) (hf:∀ row∈rows,∀ v∈row,(∃ x,v=.lit x)∨∃ s r,v=.tree s r) :
    aN σ kp ρ true (.tree sz rows) (.ref id sz 0 len):=.snap _ _ rfl (bV.flat ho hw hl qj hf)
def Yg {α:Type} (n0:Nat) (S:α→St) (I:α→Prop) (M:α→Nat) (x:α) (Q:Exit→St→Prop):Exit→St→Prop
  | .normal,s=>∃ y,I y∧M y<M x∧aA n0 s (S y)
  | e,s=>Q e s
theorem Yh {α:Type} {c:Code} (S:α→St) (I:α→Prop) (M:α→Nat) (x0:α) (hI:I x0) (h0:aA n0 σ (S x0)) (round:∀ x,I x→∀ Q':Exit→St→Prop,(∀ s y,I y→M y<M x→aA n0 s (S y)→Q' .normal s)→(∀ e s,e≠.normal→Q e s→Q' e s)→W P N n0 c Q' (S x)):W P N n0 (.loop c) Q σ:=by
  refine cA h0 ?_
  intro os γ0 a w hn aQ b k cs
  have key:∀ n x a w,M x=n→I x→gA N os γ0 (S x) a w →
      ∃ e a' w',(∃ σ',Q e σ'∧gA N os γ0 σ' a' w')∧Arrives P (lone (b.at a (.code c::.inLoop c::k)) cs w) b k cs e a' w':=by
    intro n
    induction n using Nat.strongRecOn with
    | _ n ih =>
      intro x a w hm hI aQ
      have hr:W P N n0 c (Yg n0 S I M x Q) (S x):=round x hI _ (fun s y h1 h2 h3=>⟨y,h1,h2,h3⟩) (fun e s he h=>by cases e<;>first|exact absurd rfl he|exact h)
      obtain ⟨e,yN,AM,⟨σ',hq,eU⟩,ka⟩:=hr os γ0 a w hn aQ b (.inLoop c::k) cs
      cases e with
      | normal =>
        obtain ⟨y,Yi,bj,ht⟩:=hq
        obtain ⟨h1,h2,γ,rfl,h3,h4,h5⟩:=eU
        obtain ⟨aB,e1,e2,e3,e4⟩:=ht os γ0 γ hn h4 h5
        obtain ⟨Yj,Yk,Yl,Ym,Yn⟩:=ih (M y) (by omega) y yN γ.w rfl Yi ⟨h1,h2,aB,e1,e2.trans h3,e3,e4⟩
        exact⟨Yj,Yk,Yl,Ym,.of_steps (Steps.trans ka (.one step_inLoop)) Yn⟩
      | exit id=>exact⟨_,yN,AM,⟨σ',hq,eU⟩,.pass (x:=.inLoop c) rfl (fun _ _=>.inl (by simp)) ka⟩
      | goto l=>exact⟨_,yN,AM,⟨σ',hq,eU⟩,.pass (x:=.inLoop c) rfl (fun _ _=>.inl (by simp)) ka⟩
      | ret=>exact⟨_,yN,AM,⟨σ',hq,eU⟩,.pass (x:=.inLoop c) rfl (fun _ _=>.inl (by simp)) ka⟩
      | panic ch=>exact⟨_,yN,AM,⟨σ',hq,eU⟩,.pass (x:=.inLoop c) rfl (fun _ _=>.inl (by simp)) ka⟩
      | outgrown=>exact⟨_,yN,AM,⟨σ',hq,eU⟩,.pass (x:=.inLoop c) rfl (fun _ _=>.inl (by simp)) ka⟩
  obtain ⟨e,a',w',hq,ka⟩:=key _ x0 a w rfl hI aQ
  exact⟨e,a',w',hq,.of_steps (.one step_loop) ka⟩
theorem Yo {id:Nat} {c:Code} (h:∀ Q':Exit→St→Prop,(∀ s,Q .normal s→Q' .normal s)→(∀ s,Q .normal s→Q' (.exit id) s)→(∀ e s,e≠.normal→e≠.exit id→Q e s→Q' e s)→W P N n0 c Q' σ):W P N n0 (.block id c) Q σ :=
  Yp (h _ (fun s h=>h) (fun s h=>by simp only[Dv,if_true];exact h) (fun e s h1 h2 h=>by
    cases e<;>first
      | exact absurd rfl h1
      | exact h
      | (rename_i wU;simp only[Dv];rw[if_neg (fun e=>h2 (by rw[e]))];exact h)))
theorem AN {ρ:Nat→Nat} {sz:Nat} {rows:List (List AV)} (h:∀ row∈rows,iO row=true):bC ρ (.arr sz rows)=.arr sz rows:=by
  simp only[bC]
  congr 1
  have:∀ row∈rows,row.map (aX ρ)=row:=fun row hr=>by
    have:=yO ρ row (h row hr)
    rwa [ue] at this
  rw[lP this]
  simp
theorem Yq (n j:Nat):bd n (aT n) j=j:=by
  unfold bd
  split
  · rename_i h
    have h':j<n:=by simpa using h
    simp[ay,j3 h']
  · rename_i h
    simp at h ⊢
    omega
mutual
theorem vr:∀ (v:AV),aX (fun j=>j) v=v
  | .undef=>rfl
  | .lit _=>rfl
  | .tree ..=>rfl
  | .db _=>rfl
  | .ref ..=>rfl
  | .ptr ..=>rfl
  | .agg cs=>by simp only[aX];rw[Dw cs]
  | .bL cs=>by simp only[aX];rw[Dw cs]
  | .fn f cs=>by simp only[aX];rw[Dw cs]
  | .gz t v=>by simp only[aX];rw[vr v]
  | .gl _=>rfl
theorem Dw:∀ (l:List AV),m7 (fun j=>j) l=l
  | []=>rfl
  | v::vs=>by simp only[m7];rw[vr v,Dw vs]
end
theorem AG (o:Ob):bC (fun j=>j) o=o:=by
  have h:aX (fun j=>j)=id:=by funext v;exact vr v
  cases o with
  | gone=>rfl
  | var cs=>simp[bC,h]
  | arr sz rows=>simp[bC,h]
  | mp ag L=>simp[bC,h]
theorem vq (n:Nat):bd n (aT n)=fun j=>j:=by funext j;exact Yq n j
theorem Mt (aa:List Ob):∀ (ba:List Ob),aa.length≤ba.length→dM aa (aT aa.length) ba=ba:=by
  intro ba h
  have hlen:(aT aa.length).length≤ba.length:=by simpa using h
  apply List.ext_getElem?
  intro i
  rcases Nat.lt_or_ge i aa.length with hi | hi
  · have:=Dx (aT aa.length) aa ba hlen (Gd) (by simp) i (by simpa using hi)
    simpa [ay,j3 hi] using this
  · have Dy:=GV (aT aa.length) aa ba hlen
    obtain ⟨j,rfl⟩ :∃j,i=aa.length+j:=⟨i - aa.length,by omega⟩
    have:=Mu (aT aa.length) aa ba hlen j
    simpa using this
theorem mD {f:FuncId} {args:List AV} {dst:Option Tmp} {K:St→Prop} {res:AV} {ba:List Ob} (h:ao P f args σ.aa res ba) (hl:σ.aa.length≤ba.length) (hK:K ((⟨σ.env,ba⟩:St).put dst res)):pD P f args dst K σ:=by
  refine⟨aT σ.aa.length,false,args,σ.aa,res,ba,h,⟨Gd,by simp,?_,rfl,?_,by simp⟩,?_⟩
  · intro j o hj
    have bj:=(aS.1 hj).1
    rw[vq,AG]
    simpa [ay,j3 bj] using hj
  · intro j c d hc hd
    rw[hc] at hd
    simp only[da.injEq] at hd
    subst hd
    exact .eq (by rw[vq,vr])
  · rw[vq,vr]
    have:ba.map (bC (fun j=>j))=ba:=by
      have h:bC (fun j=>j)=id:=by funext o;exact AG o
      simp[h]
    rw[this,Mt _ _ hl]
    exact hK
end Go.Am
namespace Go.Am
variable {P:Program} {N n0:Nat} {σ:St} {Q:Exit→St→Prop}
theorem Yr {id:Nat} {ops:Array Oper} (hd:gm N ops=true) (h:∀ K:St→Prop,(∀ s,Q .normal s→K s)→opsL P ops ops.toList K σ):W P N n0 (.region id ops false) Q σ :=
  Mw hd (h _ (fun _ h=>h))
theorem GW {ops:Array Oper} {K:St→Prop}:∀ (l:List Oper) (i:Nat) (σ:St),ops.toList.drop i=l→opsL P ops l K σ→iQ P ops [] (iR (mz i l.length)) K σ
  | [],i,σ,_,h=>h
  | o::r,i,σ,hl,h=>by
    have hi:ops[i]?=some o:=by
      have:(ops.toList.drop i)[0]?=some o:=by rw[hl];rfl
      simpa using this
    have hr:ops.toList.drop (i+1)=r:=by
      have:=congrArg List.tail hl
      simpa [List.tail_drop] using this
    rw[List.length_cons,List.range'_succ]
    show cO P ops [] i (iQ P ops [] (iR (mz (i+1) r.length)) K) σ
    unfold cO
    simp only[hi]
    have hm:∀ s,opsL P ops r K s→iQ P ops [] (iR (mz (i+1) r.length)) K s:=fun s hs=>GW r (i+1) s hr hs
    refine AJ hm ?_
    unfold opsL at h
    unfold dV
    cases hg:o.guard with
    | none=>simp only[hg] at h;exact h
    | some jw =>
      obtain ⟨j,want⟩:=jw
      simp only[hg] at h
      exact h
def wV (ops:Array Oper):Bool:=(iR (aT ops.size)).ok ops [] ops.size (wC ops.size false)
theorem Ys {id:Nat} {ops:Array Oper} {y:Code} (hm:P.follows .mixedOrders=true) (hd:gm N ops=true) (ht:wV ops=true) (h:∀ K:St→Prop,(∀ s,W P N n0 y Q s→K s)→opsL P ops ops.toList K σ) :
    W P N n0 (.seq (.region id ops true) y) Q σ :=
  Mn [] _ hm hd ht fun K hK=>by
    have:=GW (P:=P) (ops:=ops) ops.toList 0 σ rfl (h K hK)
    rw[vd]
    simpa using this
theorem Yt {id:Nat} {ops:Array Oper} (hm:P.follows .mixedOrders=true) (hd:gm N ops=true) (ht:wV ops=true) (h:∀ K:St→Prop,(∀ s,Q .normal s→K s)→opsL P ops ops.toList K σ) :
    W P N n0 (.region id ops true) Q σ :=
  oT [] _ hm hd ht (by
    have:=GW (P:=P) (ops:=ops) ops.toList 0 σ rfl (h _ (fun _ h=>h))
    rw[vd]
    simpa using this)
theorem aC {v res:AV} (hr:gT v=true) (h:v=res):m5 0 σ v res []:=by
  subst h;exact GX hr
theorem Dz (e:Nat→AV) (d:Nat) (v:AV) (k:Nat):iG e d v k=if k=d then v else e k:=by simp only[iG]
theorem Mx:IntKind.i64.min = -9223372036854775808:=rfl
theorem My:IntKind.i64.max=9223372036854775807:=rfl
def ints (xs:List Int):List (List AV):=xs.map fun x=>[.lit (.int .i64 x)]
def bg (xs:List Bool):List (List AV):=xs.map fun x=>[.lit (.bool x)]
def j9 (xs:List (List Int)):List (List AV):=xs.map fun x=>[.tree 1 (ints x)]
theorem m8 (xs:List Int):(ints xs).length=xs.length:=by simp[ints]
theorem yP (xs:List Bool):(bg xs).length=xs.length:=by simp[bg]
theorem DA (xs:List (List Int)):(j9 xs).length=xs.length:=by simp[j9]
theorem Mz (xs:List Int) (i:Nat) (h:i<xs.length):(ints xs).getD i []=[.lit (.int .i64 (xs.getD i 0))]:=by simp[ints,h]
theorem MA (xs:List Bool) (i:Nat) (h:i<xs.length):(bg xs).getD i []=[.lit (.bool (xs.getD i false))]:=by simp[bg,h]
theorem MC (xs:List (List Int)) (i:Nat) (h:i<xs.length):(j9 xs).getD i []=[.tree 1 (ints (xs.getD i []))]:=by simp[j9,h]
theorem MD (xs:List Int) (i:Nat) (h:i<xs.length):(ints xs)[i]?=some [.lit (.int .i64 (xs.getD i 0))]:=by simp[ints,h]
theorem ME (xs:List Bool) (i:Nat) (h:i<xs.length):(bg xs)[i]?=some [.lit (.bool (xs.getD i false))]:=by simp[bg,h]
theorem MF (xs:List (List Int)) (i:Nat) (h:i<xs.length):(j9 xs)[i]?=some [.tree 1 (ints (xs.getD i []))]:=by simp[j9,h]
theorem ints_set (xs:List Int) (i:Nat) (v:Int):(ints xs).set i [.lit (.int .i64 v)]=ints (xs.set i v):=by simp[ints,p6]
theorem sK (xs:List Bool) (i:Nat) (v:Bool):(bg xs).set i [.lit (.bool v)]=bg (xs.set i v):=by simp[bg,p6]
theorem MG (xs ys:List Int):ints xs++ints ys=ints (xs++ys):=by simp[ints]
theorem DB (xs:List Int) (v:Int):ints xs++[[.lit (.int .i64 v)]]=ints (xs++[v]):=by simp[ints]
theorem MH (xs:List (List Int)) (v:List Int):j9 xs++[[.tree 1 (ints v)]]=j9 (xs++[v]):=by simp[j9]
theorem GY (xs:List Bool) (v:Bool):bg xs++[[.lit (.bool v)]]=bg (xs++[v]):=by simp[bg]
theorem yQ (n:Nat) (v:Int):bq n [AV.lit (.int .i64 v)]=ints (bq n v):=by simp[ints]
theorem GZ (n:Nat) (v:Bool):bq n [AV.lit (.bool v)]=bg (bq n v):=by simp[bg]
theorem AO (xs:List Int):((ints xs).all fun row=>row.all cm)=true:=by simp[ints,cm,Value.oneCell']
theorem MI (xs:List Bool):((bg xs).all fun row=>row.all cm)=true:=by simp[bg,cm,Value.oneCell']
theorem MJ (xs:List (List Int)):((j9 xs).all fun row=>row.all cm)=true:=by simp[j9,cm]
theorem ry (ρ:Nat→Nat) (sz:Nat) (xs:List Int):bC ρ (.arr sz (ints xs))=.arr sz (ints xs):=AN (by simp[ints,iO,gT])
theorem wW (ρ:Nat→Nat) (sz:Nat) (xs:List Bool):bC ρ (.arr sz (bg xs))=.arr sz (bg xs):=AN (by
  intro row hr
  simp only[bg,b7] at hr
  obtain ⟨x,_,rfl⟩:=hr
  rfl)
theorem DC (ρ:Nat→Nat) (sz:Nat) (xs:List (List Int)):bC ρ (.arr sz (j9 xs))=.arr sz (j9 xs):=AN (by simp[j9,iO,gT])
theorem sL (xs:List Int):∀ row∈ints xs,∀ v∈row,(∃ x,v=AV.lit x)∨∃ s r,v=AV.tree s r:=by
  intro row hr v hv
  simp only[ints,b7] at hr
  obtain ⟨x,_,rfl⟩:=hr
  simp at hv
  exact .inl ⟨_,hv⟩
theorem MK (xs:List Bool):∀ row∈bg xs,∀ v∈row,(∃ x,v=AV.lit x)∨∃ s r,v=AV.tree s r:=by
  intro row hr v hv
  simp only[bg,b7] at hr
  obtain ⟨x,_,rfl⟩:=hr
  simp at hv
  exact .inl ⟨_,hv⟩
theorem Yu (xs:List (List Int)):∀ row∈j9 xs,∀ v∈row,(∃ x,v=AV.lit x)∨∃ s r,v=AV.tree s r:=by
  intro row hr v hv
  simp only[j9,b7] at hr
  obtain ⟨x,_,rfl⟩:=hr
  simp at hv
  exact .inr ⟨_,_,hv⟩
theorem qq (xs:List Int):∀ row∈ints xs,row.length=1:=by
  intro row hr;simp only[ints,b7] at hr;obtain ⟨x,_,rfl⟩:=hr;rfl
theorem G0 (xs:List Bool):∀ row∈bg xs,row.length=1:=by
  intro row hr;simp only[bg,b7] at hr;obtain ⟨x,_,rfl⟩:=hr;rfl
theorem Yv (xs:List (List Int)):∀ row∈j9 xs,row.length=1:=by
  intro row hr;simp only[j9,b7] at hr;obtain ⟨x,_,rfl⟩:=hr;rfl
theorem dr {α:Type} (xs:List α) (i:Nat) (d:α) (h:i<xs.length):xs.drop i=xs.getD i d::xs.drop (i+1):=by
  rw[List.drop_eq_getElem_cons h];simp[h]
end Go.Am

