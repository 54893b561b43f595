import Derived.Test.YtdipcmigdbnheaaGreatX03
set_option linter.unusedVariables false
set_option linter.unusedSimpArgs false
set_option linter.unnecessarySimpa false
set_option linter.unusedSectionVars false
set_option maxHeartbeats 64000000
set_option maxRecDepth 20000
open List renaming mem_of_getElem?→gB,mem_append→cr,map_congr_left→kU,getElem?_eq_some_iff→aQ,range→aN,contains_iff_mem→tB,mem_cons→cu,not_mem_nil→ly,getD_eq_getElem?_getD→aA,getElem?_range→oB,nodup_range→JA,range'→mn,length_cons→dH,range'_succ→uJ,range_eq_range'→uK,map_set→tC,replicate→bY,mem_map→ca,getElem?_eq_getElem→bX,take_of_length_le→fN,length_take→gV
open Array renaming getD_eq_getD_getElem?→eY,toList_append→xJ,replicate→vZ,length_toList→si
open Bool renaming or_eq_true→kv,and_eq_true→bk
open Option renaming some→cY
namespace Go.Am
variable {P:Program}
def FB (P:Program) (g:FuncId) (args:List AV) (dst:Option Tmp) (K:St→Prop) (σ:St):Prop :=
  ∃ res,an P g args [] res []∧gX args=true∧eZ res=true∧K (σ.put dst res)
def qZ (P:Program) (t:TypeId) (dst:Option Tmp) (K:St→Prop) (σ:St):AV→Prop
  | .b7 cells=>(ty P t).kind≠99∧lA (ty P t) cells 0 fun v=>K (σ.put dst v)
  | _=>False
def kY (q:Bool) (P:Program) (o:Oper) (σ:St) (K:St→Prop):Prop :=
  match q with
  | false=>ba P o σ K
  | true =>
    match o.op with
    | .call { callee:=.value f,args,.. } =>
      match ev σ f with
      | .fn g aW=>FB P g (args.toList.map (ev σ)++aW) o.dst K σ
      | _=>False
    | .load t a=>qZ P t o.dst K σ (ev σ a)
    | _=>False
theorem WD {o:Oper} {σ:St} {K:St→Prop} {t:TypeId} {a:Operand} (dP:o.op=.load t a) (h:qZ P t o.dst K σ (ev σ a)):ba P o σ K:=by
  unfold ba
  simp only[dP]
  unfold cp
  simp only[dP]
  unfold qZ at h
  split at h
  · rename_i cells he
    simp only[he]
    exact h
  · exact h.elim
theorem FC {t:TypeId} {dst:Option Tmp} {K:St→Prop} {σ:St} {v:AV} (h:qZ P t dst K σ v) :∃x,K (σ.put dst x)∧∀ (σ2:St) (K2:St→Prop),K2 (σ2.put dst x)→qZ P t dst K2 σ2 v:=by
  unfold qZ at h
  split at h
  · rename_i cells
    obtain ⟨h1,h2⟩:=h
    unfold lA at h2
    split at h2
    · rename_i ha
      refine⟨_,h2.2,fun σ2 K2 hK=>?_⟩
      unfold qZ lA
      simp only
      rw[if_pos ha]
      exact⟨h1,h2.1,hK⟩
    · rename_i ha
      split at h2
      · rename_i x hx
        refine⟨x,h2,fun σ2 K2 hK=>?_⟩
        unfold qZ lA
        simp only
        rw[if_neg ha,hx]
        exact⟨h1,hK⟩
      · exact h2.elim
  · exact h.elim
def nC (q:Bool) (P:Program) (o:Oper) (K:St→Prop) (b want:Bool) (σ:St):Prop:=(b=want→kY q P o σ K)∧(b≠want→K (σ.put o.dst (.lit (.tuple #[]))))
def dT (P:Program) (ops:Array Oper) (q:Bool) (o:Oper) (K:St→Prop) (σ:St):Prop :=
  match o.guard with
  | none=>kY q P o σ K
  | some (j,want) =>
    match (ops[j]?).bind (·.dst) with
    | none=>False
    | some d =>
      match σ.env d with
      | .lit (.bool b)=>nC q P o K b want σ
      | .lit (.tuple vs)=>vs = #[]∧K (σ.put o.dst (.lit (.tuple #[])))
      | _=>False
theorem J1 {q:Bool} {o:Oper} {σ:St} {K:St→Prop} (h:kY q P o σ K):ba P o σ K:=by
  cases q with
  | false=>exact h
  | true =>
    unfold kY at h
    simp only at h
    unfold ba
    split at h
    · rename_i f args fl dP
      simp only[dP]
      split at h
      · rename_i g aW he
        simp only[he]
        obtain ⟨res,h1,h2,h3,h4⟩:=h
        exact bZ h1 h2 h3 h4
      · exact h.elim
    · rename_i t a dP
      have:=WD dP h
      unfold ba at this
      simpa only[dP] using this
    · exact h.elim
theorem J2 {N:Nat} {os:List Ob} {γ0:Cx} {ops:Array Oper} (hd:∀ o∈ops.toList,∀ d,o.dst=some d→d<N) {q:Bool} {i:Nat} {o:Oper} (hi:ops[i]?=some o) {σ:St} {K:St→Prop}
    (h:dT P ops q o K σ) {a:Act} {w:World} (aJ:gI N os γ0 σ a w) {Q:Exit→Act→World→Prop} {next:Act→World→Prop} (hn:∀ σ' a' w',K σ'→gI N os γ0 σ' a' w'→next a' w'):wpOp P ops Q i next a w:=by
  have cX:o∈ops.toList:=gB (by simpa using hi)
  unfold wpOp
  simp only[hi]
  unfold dT at h
  cases hg:o.guard with
  | none =>
    simp only[hg] at h
    have hw:Region.wanted o (yielded ops a.tmps)=true:=by simp[Region.wanted,hg]
    rw[if_pos hw]
    left
    exact wo (J1 h) aJ (hd o cX) hn
  | some jw =>
    obtain ⟨j,want⟩:=jw
    simp only[hg] at h
    cases eA:(ops[j]?).bind (·.dst) with
    | none=>simp[eA] at h
    | some d =>
      simp only[eA] at h
      split at h
      · rename_i b he
        obtain ⟨iY,a9,γ,rfl,ha,hs,hf⟩:=aJ
        have jt:=hs.aw d
        rw[he,ha] at jt
        have hv:=jt.cM
        have hy:yielded ops a.tmps j=some b:=by
          unfold yielded
          rw[eA]
          have:a.tmps[d]?=some (.bool b):=by
            rw[eY] at hv
            cases hx:a.tmps[d]? with
            | none=>rw[hx] at hv;simp[Go.undef] at hv
            | some y=>rw[hx] at hv;simp at hv;rw[hv]
          simp[this]
        by_cases ig:b=want
        · have hw:Region.wanted o (yielded ops a.tmps)=true:=by simp[Region.wanted,hg,hy,ig]
          rw[if_pos hw]
          left
          exact wo (J1 (h.1 ig)) ⟨iY,a9,γ,rfl,ha,hs,hf⟩ (hd o cX) hn
        · have hw:Region.wanted o (yielded ops a.tmps)=false:=by simp[Region.wanted,hg,hy,ig]
          rw[if_neg (by rw[hw];simp)]
          refine hn _ _ _ (h.2 ig) ⟨by rw[put_defers];exact iY,by rw[sy];exact a9,{ γ with tmps:=(a.put o.dst Go.undef).tmps },rfl,rfl,qa hs ha (fun d h=>by rw[a9];exact hd o cX d h) (.lit _),?_⟩
          rw[qb];exact hf.put _
      · rename_i vs he
        obtain ⟨iY,a9,γ,rfl,ha,hs,hf⟩:=aJ
        have jt:=hs.aw d
        rw[he,ha] at jt
        have hv:=jt.cM
        have hy:yielded ops a.tmps j=none:=by
          unfold yielded
          rw[eA]
          rw[eY] at hv
          cases hx:a.tmps[d]? with
          | none=>simp[hx]
          | some y=>rw[hx] at hv;simp at hv;subst hv;simp[hx]
        have hw:Region.wanted o (yielded ops a.tmps)=false:=by simp[Region.wanted,hg,hy]
        rw[if_neg (by rw[hw];simp)]
        refine hn _ _ _ h.2 ⟨by rw[put_defers];exact iY,by rw[sy];exact a9,{ γ with tmps:=(a.put o.dst Go.undef).tmps },rfl,rfl,qa hs ha (fun d h=>by rw[a9];exact hd o cX d h) (.lit _),?_⟩
        rw[qb];exact hf.put _
      · exact h.elim
theorem Ch (c:Nat) (a:List Ob):j' c a a:=by
  unfold j'
  split
  · rfl
  · split
    · intro id _;rfl
    · split
      · exact⟨rfl,fun id o o' h h'=>by rw[h] at h';simp at h';subst h';exact wq o⟩
      · trivial
theorem cg.aa {σ σ2:St} (h:σ2.aa=σ.aa) {kp:Nat→Prop} {c d:AV} (ha:cg σ kp c d):cg σ2 kp c d:=by
  induction ha with
  | lit x=>exact .lit x
  | tree s r=>exact .tree s r
  | nil sz=>exact .nil sz
  | ref id sz off len rows fO g aT qc hl0 Ci sA p9 ih=>exact .ref id sz off len rows fO g (by rw[h];exact aT) qc hl0 Ci sA ih
theorem aE.aa {σ σ2:St} (h:σ2.aa=σ.aa) {kp:Nat→Prop} {ρ:Nat→Nat} {snap:Bool} {c d:AV} (ha:aE σ kp ρ snap c d):aE σ2 kp ρ snap c d:=by
  induction ha with
  | same v=>exact .same v
  | snap c d hs hf=>exact .snap c d hs (hf.aa h)
  | agg cs ds hl _ ih=>exact .agg cs ds hl ih
  | bG cs ds hl _ ih=>exact .bG cs ds hl ih
def fD (q:Bool) (o:Oper):Nat:=if q then 0 else cls o.op
theorem tJ {ops:Array Oper} {o:Oper} {σ:St} {e2:Nat→AV} {os:List Ob} (h:∀ t∈o.looksAt ops,e2 t=σ.env t):∀ x∈o.op.operands.toList,ev ⟨e2,os⟩ x=ev σ x:=by
  intro x hx
  cases x with
  | tmp t =>
    show e2 t=σ.env t
    refine h t ?_
    unfold Oper.looksAt
    rw[cr]
    left
    rw[List.mem_filterMap]
    exact⟨_,hx,rfl⟩
  | const v=>rfl
  | func f=>rfl
  | global g=>rfl
theorem WE {σ:St} {v:AV} {K:FuncId→AV→Prop} {r:Option (FuncId × Option TypeId)} (h:nD P σ v K r) :
    ∃ g x,K g x∧∀ (e2:Nat→AV) (K2:FuncId→AV→Prop),K2 g x→nD P ⟨e2,σ.aa⟩ v K2 r:=by
  match r,h with
  | none,h=>exact h.elim
  | some (g,none),h=>exact⟨g,v,h,fun _ _ h=>h⟩
  | some (g,some e),h =>
    unfold nD at h
    obtain ⟨hk,h⟩:=h
    cases v with
    | ptr id rr c =>
      simp only at h
      cases a7:rowOf σ id rr with
      | none=>simp[a7] at h
      | some row =>
        simp only[a7] at h
        obtain ⟨x,h1,h2⟩:=J3 h
        refine⟨g,x,h1,fun e2 K2 hK=>?_⟩
        unfold nD
        have:rowOf ⟨e2,σ.aa⟩ id rr=some row:=a7
        simp only[this]
        exact⟨hk,h2 _ hK⟩
    | _=>exact h.elim
theorem WG {o:Oper} {σ:St} {K:St→Prop} (hW:ba P o σ K) :
    ∃ v os,j' (cls o.op) σ.aa os∧K ((⟨σ.env,os⟩:St).put o.dst v)∧∀ (e2:Nat→AV) (K2:St→Prop),(∀ x∈o.op.operands.toList,ev ⟨e2,σ.aa⟩ x=ev σ x)→K2 ((⟨e2,os⟩:St).put o.dst v)→ba P o ⟨e2,σ.aa⟩ K2:=by
  unfold ba at hW ⊢
  split at hW
  · rename_i f args fl dP
    simp only[dP]
    split at hW
    · rename_i g aW he
      obtain ⟨ak,snap,cZ,bR,res,cG,h1,⟨h2,h3,h4,h5,h6,h7⟩,h8⟩:=hW
      refine⟨_,_,(by simp[j',cls]),h8,fun e2 K2 hx hK=>?_⟩
      have e1:ev ⟨e2,σ.aa⟩ f=.fn g aW:=by rw[← he];exact hx f (by simp[Op.operands,Call.operands])
      have e3:args.toList.map (ev ⟨e2,σ.aa⟩)=args.toList.map (ev σ):=kU fun y hy=>hx y (by simp only[Op.operands,Call.operands,xJ,cr];exact .inr hy)
      simp only[e1,e3]
      exact⟨ak,snap,cZ,bR,res,cG,h1,⟨h2,h3,h4,h5,fun j c d hc hd=>aE.aa (σ:=σ) (σ2:=⟨e2,σ.aa⟩) rfl (h6 j c d hc hd),h7⟩,hK⟩
    · exact hW.elim
  · rename_i r m args fl dP
    simp only[dP]
    split at hW
    · rename_i t v he
      obtain ⟨g,x,⟨ak,snap,cZ,bR,res,cG,h1,⟨h2,h3,h4,h5,h6,h7⟩,h8⟩,WH⟩:=WE hW
      refine⟨_,_,(by simp[j',cls]),h8,fun e2 K2 hx hK=>?_⟩
      have e1:ev ⟨e2,σ.aa⟩ r=.gJ t v:=by rw[← he];exact hx r (by simp[Op.operands,Call.operands])
      have e3:args.toList.map (ev ⟨e2,σ.aa⟩)=args.toList.map (ev σ):=kU fun y hy=>hx y (by simp only[Op.operands,Call.operands,xJ,cr];exact .inr hy)
      simp only[e1,e3]
      exact WH e2 _ ⟨ak,snap,cZ,bR,res,cG,h1,⟨h2,h3,h4,h5,fun j c d hc hd=>aE.aa (σ:=σ) (σ2:=⟨e2,σ.aa⟩) rfl (h6 j c d hc hd),h7⟩,hK⟩
    · exact hW.elim
  · rename_i dm
    obtain ⟨v,os,h1,h2,h3⟩:=WI hW
    refine⟨v,os,h1,h2,fun e2 K2 hx hK=>?_⟩
    have:=h3 e2 K2 hx hK
    exact this
theorem WJ {o:Oper} {σ:St} {K:St→Prop} (hc:cls o.op≤2) (hW:ba P o σ K) :
    ∃ v,K (σ.put o.dst v)∧∀ (σ2:St) (K2:St→Prop),(∀ x∈o.op.operands.toList,ev σ2 x=ev σ x)→(∀ (id:Nat),iZ (cls o.op) σ.aa[id]? σ2.aa[id]?)→K2 (σ2.put o.dst v)→ba P o σ2 K2:=by
  unfold ba at hW ⊢
  split at hW
  · rename_i f args fl dP
    rw[dP] at hc
    simp[cls] at hc
  · rename_i r m args fl dP
    rw[dP] at hc
    simp[cls] at hc
  · rename_i dm
    obtain ⟨v,h2,h3⟩:=J4 hc hW
    refine⟨v,h2,fun σ2 K2 hx ho hK=>?_⟩
    exact h3 σ2 K2 hx (fun x _ id _=>ho id) hK
theorem J5 {q:Bool} {o:Oper} {σ:St} {K:St→Prop} (hW:kY q P o σ K) :
    ∃ v os,j' (fD q o) σ.aa os∧K ((⟨σ.env,os⟩:St).put o.dst v)∧∀ (e2:Nat→AV) (K2:St→Prop),(∀ x∈o.op.operands.toList,ev ⟨e2,σ.aa⟩ x=ev σ x)→K2 ((⟨e2,os⟩:St).put o.dst v)→kY q P o ⟨e2,σ.aa⟩ K2:=by
  cases q with
  | false=>exact WG hW
  | true =>
    unfold kY at hW ⊢
    simp only at hW ⊢
    split at hW
    · rename_i f args fl dP
      simp only[dP]
      split at hW
      · rename_i g aW he
        obtain ⟨res,h1,h2,h3,h4⟩:=hW
        refine⟨res,σ.aa,Ch _ _,h4,fun e2 K2 hx hK=>?_⟩
        have e1:ev ⟨e2,σ.aa⟩ f=.fn g aW:=by rw[← he];exact hx f (by simp[Op.operands,Call.operands])
        have e3:args.toList.map (ev ⟨e2,σ.aa⟩)=args.toList.map (ev σ):=kU fun y hy=>hx y (by simp only[Op.operands,Call.operands,xJ,cr];exact .inr hy)
        simp only[e1,e3]
        exact⟨res,h1,h2,h3,hK⟩
      · exact hW.elim
    · rename_i t a dP
      obtain ⟨x,h1,h2⟩:=FC hW
      refine⟨x,σ.aa,Ch _ _,h1,fun e2 K2 hx hK=>?_⟩
      rw[hx a (by simp[dP,Op.operands])]
      exact h2 _ K2 hK
    · exact hW.elim
theorem J6 {q:Bool} {o:Oper} {σ:St} {K:St→Prop} (hc:fD q o≤2) (hW:kY q P o σ K) :
    ∃ v,K (σ.put o.dst v)∧∀ (σ2:St) (K2:St→Prop),(∀ x∈o.op.operands.toList,ev σ2 x=ev σ x)→(∀ (id:Nat),iZ (fD q o) σ.aa[id]? σ2.aa[id]?)→K2 (σ2.put o.dst v)→kY q P o σ2 K2:=by
  cases q with
  | false=>exact WJ hc hW
  | true =>
    unfold kY at hW ⊢
    simp only at hW ⊢
    split at hW
    · rename_i f args fl dP
      simp only[dP]
      split at hW
      · rename_i g aW he
        obtain ⟨res,h1,h2,h3,h4⟩:=hW
        refine⟨res,h4,fun σ2 K2 hx _ hK=>?_⟩
        have e1:ev σ2 f=.fn g aW:=by rw[← he];exact hx f (by simp[Op.operands,Call.operands])
        have e3:args.toList.map (ev σ2)=args.toList.map (ev σ):=kU fun y hy=>hx y (by simp only[Op.operands,Call.operands,xJ,cr];exact .inr hy)
        simp only[e1,e3]
        exact⟨res,h1,h2,h3,hK⟩
      · exact hW.elim
    · rename_i t a dP
      obtain ⟨x,h1,h2⟩:=FC hW
      refine⟨x,h1,fun σ2 K2 hx _ hK=>?_⟩
      rw[hx a (by simp[dP,Op.operands])]
      exact h2 _ K2 hK
    · exact hW.elim
theorem tK {ops:Array Oper} {o:Oper} {j d:Nat} {want:Bool} (hg:o.guard=some (j,want)) (hd:(ops[j]?).bind (·.dst)=some d):d∈o.looksAt ops:=by
  unfold Oper.looksAt
  rw[cr]
  right
  simp[hg,hd]
theorem zJ {ops:Array Oper} {q:Bool} {o:Oper} {σ:St} {K:St→Prop} (hW:dT P ops q o K σ) :
    ∃ v os,j' (fD q o) σ.aa os∧K ((⟨σ.env,os⟩:St).put o.dst v)∧∀ (e2:Nat→AV) (K2:St→Prop),(∀ t∈o.looksAt ops,e2 t=σ.env t)→K2 ((⟨e2,os⟩:St).put o.dst v)→dT P ops q o K2 ⟨e2,σ.aa⟩:=by
  unfold dT at hW ⊢
  cases hg:o.guard with
  | none =>
    simp only[hg] at hW
    obtain ⟨v,os,h1,h2,h3⟩:=J5 hW
    exact⟨v,os,h1,h2,fun e2 K2 hl hK=>h3 e2 K2 (tJ hl) hK⟩
  | some jw =>
    obtain ⟨j,want⟩:=jw
    simp only[hg] at hW
    cases eA:(ops[j]?).bind (·.dst) with
    | none=>simp[eA] at hW
    | some d =>
      simp only[eA] at hW
      split at hW
      · rename_i b he
        by_cases ig:b=want
        · obtain ⟨v,os,h1,h2,h3⟩:=J5 (hW.1 ig)
          refine⟨v,os,h1,h2,fun e2 K2 hl hK=>?_⟩
          have:e2 d=.lit (.bool b):=by rw[hl d (tK hg eA)];exact he
          simp only[eA,this]
          exact⟨fun _=>h3 e2 K2 (tJ hl) hK,fun hn=>absurd ig hn⟩
        · refine⟨.lit (.tuple #[]),σ.aa,Ch _ _,hW.2 ig,fun e2 K2 hl hK=>?_⟩
          have:e2 d=.lit (.bool b):=by rw[hl d (tK hg eA)];exact he
          simp only[eA,this]
          exact⟨fun hn=>absurd hn ig,fun _=>hK⟩
      · rename_i vs he
        refine⟨.lit (.tuple #[]),σ.aa,Ch _ _,hW.2,fun e2 K2 hl hK=>?_⟩
        have:e2 d=.lit (.tuple vs):=by rw[hl d (tK hg eA)];exact he
        simp only[eA,this]
        exact⟨hW.1,hK⟩
      · exact hW.elim
theorem J7 {ops:Array Oper} {q:Bool} {o:Oper} {σ:St} {K:St→Prop} (hc:fD q o≤2) (hW:dT P ops q o K σ) :
    ∃ v,K (σ.put o.dst v)∧∀ (σ2:St) (K2:St→Prop),(∀ t∈o.looksAt ops,σ2.env t=σ.env t)→(∀ (id:Nat),iZ (fD q o) σ.aa[id]? σ2.aa[id]?)→K2 (σ2.put o.dst v)→dT P ops q o K2 σ2:=by
  unfold dT at hW ⊢
  cases hg:o.guard with
  | none =>
    simp only[hg] at hW
    obtain ⟨v,h2,h3⟩:=J6 hc hW
    exact⟨v,h2,fun σ2 K2 hl ho hK=>h3 σ2 K2 (tJ (e2:=σ2.env) (os:=σ2.aa) hl) ho hK⟩
  | some jw =>
    obtain ⟨j,want⟩:=jw
    simp only[hg] at hW
    cases eA:(ops[j]?).bind (·.dst) with
    | none=>simp[eA] at hW
    | some d =>
      simp only[eA] at hW
      split at hW
      · rename_i b he
        by_cases ig:b=want
        · obtain ⟨v,h2,h3⟩:=J6 hc (hW.1 ig)
          refine⟨v,h2,fun σ2 K2 hl ho hK=>?_⟩
          have:σ2.env d=.lit (.bool b):=by rw[hl d (tK hg eA)];exact he
          simp only[eA,this]
          exact⟨fun _=>h3 σ2 K2 (tJ (e2:=σ2.env) (os:=σ2.aa) hl) ho hK,fun hn=>absurd ig hn⟩
        · refine⟨.lit (.tuple #[]),hW.2 ig,fun σ2 K2 hl ho hK=>?_⟩
          have:σ2.env d=.lit (.bool b):=by rw[hl d (tK hg eA)];exact he
          simp only[eA,this]
          exact⟨fun hn=>absurd hn ig,fun _=>hK⟩
      · rename_i vs he
        refine⟨.lit (.tuple #[]),hW.2,fun σ2 K2 hl ho hK=>?_⟩
        have:σ2.env d=.lit (.tuple vs):=by rw[hl d (tK hg eA)];exact he
        simp only[eA,this]
        exact⟨hW.1,hK⟩
      · exact hW.elim
theorem uT {σ:St} {dst:Option Tmp} {v:AV} {t:Nat} (h:∀ d,dst=some d→d≠t):(σ.put dst v).env t=σ.env t:=by
  cases dst with
  | none=>rfl
  | some d =>
    have:=h d rfl
    simp[St.put,iM,Ne.symm this]
theorem Cj {σ:St} {x y:Option Tmp} {v u:AV} (h:∀ d,x=some d→y≠some d):(σ.put x v).put y u=(σ.put y u).put x v:=by
  cases x with
  | none=>rfl
  | some d =>
    cases y with
    | none=>rfl
    | some d' =>
      have dm:d'≠d:=fun e=>h d rfl (by rw[e])
      simp only[St.put]
      congr 1
      funext k
      simp only[iM]
      split<;>split<;>simp_all
theorem Ck {σ:St} {x:Option Tmp} {v:AV}:(σ.put x v).aa=σ.aa:=by cases x<;>rfl
theorem J8 {σ:St} {x:Option Tmp} {v:AV}:σ.put x v=⟨(σ.put x v).env,σ.aa⟩:=by cases x<;>rfl
theorem Cl {σ:St} {os:List Ob} {x:Option Tmp} {v:AV}:(⟨(σ.put x v).env,os⟩:St)=(⟨σ.env,os⟩:St).put x v:=by cases x<;>rfl
def xU (ci ck:Nat):Bool:=ci == 0 || ck == 0 || (ci == 1 && decide (ck≤4)) || (ci == 2 && decide (ck≤3))
theorem J9 {ci ck:Nat} (h:(ci == 0 || (ci == 1 && decide (ck≤4)) || (ci == 2 && decide (ck≤3)))=true) {a b:List Ob} (he:j' ck a b) (id:Nat):iZ ci a[id]? b[id]?:=by
  simp only[kv,bk,beq_iff_eq,decide_eq_true_eq] at h
  rcases h with (rfl | ⟨rfl,hk⟩) | ⟨rfl,hk⟩
  · simp[iZ]
  · unfold j' at he
    have:∀ o,a[id]?=some o→∃ o',b[id]?=some o'∧q6 o o':=by
      intro o ho
      have bw:=(aQ.1 ho).1
      split at he
      · subst he;exact⟨o,ho,wq o⟩
      · split at he
        · exact⟨o,by rw[he id bw];exact ho,wq o⟩
        · split at he
          · have hb:id<b.length:=by omega
            exact⟨b[id],by simp[hb],he.2 id o _ ho (by simp[hb])⟩
          · omega
    simpa [iZ] using this
  · unfold j' at he
    have:∀ o,a[id]?=some o→b[id]?=some o:=by
      intro o ho
      have bw:=(aQ.1 ho).1
      split at he
      · subst he;exact ho
      · split at he
        · rw[he id bw];exact ho
        · omega
    simpa [iZ] using this
theorem WK {ops:Array Oper} {qi qk:Bool} {oi ok:Oper} (ha:oi.apart ops ok=true) (hi:fD qi oi≤2)
    (hc:(fD qi oi == 0 || (fD qi oi == 1 && decide (fD qk ok≤4)) || (fD qi oi == 2 && decide (fD qk ok≤3)))=true) {σ:St} {K:St→Prop}
    (h:dT P ops qi oi (dT P ops qk ok K) σ):dT P ops qk ok (dT P ops qi oi K) σ:=by
  obtain ⟨a1,a2,a3⟩:=Oper.apart_spec ha
  obtain ⟨v,h1,run⟩:=J7 hi h
  obtain ⟨vk,os,wu,h2,zK⟩:=zJ h1
  rw[Ck] at wu zK
  refine zK σ.env _ (fun t ht=>(uT fun d hd e=>a1 d hd (e ▸ ht)).symm) ?_
  refine run _ _ (fun t ht=>?_) (fun id=>?_) ?_
  · rw[uT fun d hd e=>a3 d hd (e ▸ ht)]
  · rw[Ck];exact J9 hc wu id
  · rw[Cl] at h2
    rw[Cj (fun d hd e=>a2 d e hd)]
    exact h2
theorem WL {ops:Array Oper} {qi qk:Bool} {oi ok:Oper} (ha:oi.apart ops ok=true) (hk:fD qk ok=0) {σ:St} {K:St→Prop}
    (h:dT P ops qi oi (dT P ops qk ok K) σ):dT P ops qk ok (dT P ops qi oi K) σ:=by
  obtain ⟨a1,a2,a3⟩:=Oper.apart_spec ha
  obtain ⟨vi,os,wu,h1,run⟩:=zJ h
  obtain ⟨vk,h2,FD⟩:=J7 (by omega) h1
  refine FD σ _ (fun t ht=>(uT (σ:=⟨σ.env,os⟩) fun d hd e=>a1 d hd (e ▸ ht)).symm) (fun id=>by rw[hk];simp[iZ]) ?_
  rw[J8]
  refine run _ _ (fun t ht=>uT fun d hd e=>a3 d hd (e ▸ ht)) ?_
  rw[Cl,Cj (fun d hd e=>a2 d e hd)]
  exact h2
theorem WM {ops:Array Oper} {qi qk:Bool} {oi ok:Oper} (ha:oi.apart ops ok=true) (hc:xU (fD qi oi) (fD qk ok)=true) {σ:St} {K:St→Prop}
    (h:dT P ops qi oi (dT P ops qk ok K) σ):dT P ops qk ok (dT P ops qi oi K) σ:=by
  by_cases hk:fD qk ok=0
  · exact WL ha hk h
  · have ka:(fD qi oi == 0 || (fD qi oi == 1 && decide (fD qk ok≤4)) || (fD qi oi == 2 && decide (fD qk ok≤3)))=true:=by
      simp only[xU,kv,bk,beq_iff_eq,decide_eq_true_eq] at hc ⊢
      rcases hc with ((h | h) | h) | h
      · exact .inl (.inl h)
      · exact absurd h hk
      · exact .inl (.inr h)
      · exact .inr h
    refine WK ha ?_ ka h
    simp only[kv,bk,beq_iff_eq,decide_eq_true_eq] at ka
    omega
end Go.Am
namespace Go.Am
variable {P:Program} {N n0:Nat} {σ:St}
def cW (P:Program) (ops:Array Oper) (qs:List Nat) (i:Nat) (K:St→Prop) (σ:St):Prop :=
  match ops[i]? with
  | none=>K σ
  | some o=>dT P ops (qs.contains i) o K σ
def sB (P:Program) (ops:Array Oper) (qs:List Nat) (K:St→Prop):Nat→Array Bool→St→Prop
  | 0,aP,σ=>Region.ready .any ops aP=[]∧K σ
  | n+1,aP,σ=>(Region.ready .any ops aP=[]→K σ)∧∀ i∈Region.ready .any ops aP,cW P ops qs i (sB P ops qs K n (aP.setIfInBounds i true)) σ
theorem zL {ops:Array Oper} {q:Bool} {o:Oper} {σ:St} {K K2:St→Prop} (hk:∀ s,K s→K2 s) (h:dT P ops q o K σ):dT P ops q o K2 σ:=by
  obtain ⟨v,os,_,h2,run⟩:=zJ h
  exact run σ.env K2 (fun _ _=>rfl) (hk _ h2)
theorem WN {ops:Array Oper} {q:Bool} {o:Oper} {σ:St} {K:St→Prop} (h:dT P ops q o K σ) :∃s,K s:=by
  obtain ⟨v,os,_,h2,run⟩:=zJ h
  exact⟨_,h2⟩
theorem uU {ops:Array Oper} {qs:List Nat} {i:Nat} {σ:St} {K K2:St→Prop} (hk:∀ s,K s→K2 s) (h:cW P ops qs i K σ):cW P ops qs i K2 σ:=by
  unfold cW at h ⊢
  split at h
  · exact hk _ h
  · exact zL hk h
theorem WO {ops:Array Oper} {qs:List Nat} {i:Nat} {σ:St} {K:St→Prop} (h:cW P ops qs i K σ) :∃s,K s:=by
  unfold cW at h
  split at h
  · exact⟨_,h⟩
  · exact WN h
theorem FE {os:List Ob} {γ0:Cx} {ops:Array Oper} {qs:List Nat} (hd:∀ o∈ops.toList,∀ d,o.dst=some d→d<N) {K:St→Prop} {Q:Exit→Act→World→Prop}
    (hQ:∀ σ' a' w',K σ'→gI N os γ0 σ' a' w'→Q .normal a' w'):∀ (n:Nat) (aP:Array Bool) (σ:St) (a:Act) (w:World),sB P ops qs K n aP σ→gI N os γ0 σ a w→wpAny P .any ops Q n aP a w
  | 0,aP,σ,a,w,h,aJ=>⟨h.1,hQ _ _ _ h.2 aJ⟩
  | n+1,aP,σ,a,w,h,aJ=>by
    refine⟨fun hr=>hQ _ _ _ (h.1 hr) aJ,fun i hi=>?_⟩
    have:=h.2 i hi
    unfold cW at this
    split at this
    · rename_i hi'
      unfold wpOp
      simp only[hi']
      exact FE hd hQ n _ _ _ _ this aJ
    · rename_i o hi'
      exact J2 hd hi' this aJ fun σ' a' w' hK e7=>FE hd hQ n _ _ _ _ hK e7
theorem WQ {id:Nat} {ops:Array Oper} {Q:Exit→St→Prop} (qs:List Nat) (hm:P.follows .mixedOrders=true) (hd:gj N ops=true)
    (h:sB P ops qs (Q .normal) ops.size (vZ ops.size false) σ):W P N n0 (.region id ops true) Q σ:=by
  intro os γ0 a w _ aJ
  refine wp_region_any hm ?_
  exact FE (qd hd) (K:=Q .normal) (fun σ' a' w' hK e7=>⟨σ',hK,e7⟩) _ _ _ _ _ h aJ.drawn
theorem WR {ops:Array Oper} {qs:List Nat} {K:St→Prop} {i:Nat} {o:Oper} (hi:ops[i]?=some o) (D:List Nat) (WS:i∈D)
    (hD:∀ j∈D,j=i∨∃ oj,ops[j]?=some oj∧∃ e∈oj.after,Region.binds .any e=true∧e.on∈D):∀ (fuel:Nat) (aP:Array Bool) (σ:St),(∀ j∈D,aP.getD j true=false) →
      i∈Region.ready .any ops aP →
      (∀ j oj,ops[j]?=some oj→aP.getD j true=false→j ∉ D→o.apart ops oj=true∧xU (fD (qs.contains i) o) (fD (qs.contains j) oj)=true) →
      cW P ops qs i (sB P ops qs K fuel (aP.setIfInBounds i true)) σ→sB P ops qs K (fuel+1) aP σ:=by
  intro fuel
  induction fuel with
  | zero =>
    intro aP σ hu hr lT h
    refine⟨fun e=>by rw[e] at hr;simp at hr,fun k hk=>?_⟩
    by_cases ij:k=i
    · subst ij;exact h
    · obtain ⟨s,hs⟩:=WO h
      have:=ready_mono hk ij
      rw[hs.1] at this
      simp at this
  | succ m ih =>
    intro aP σ hu hr lT h
    refine⟨fun e=>by rw[e] at hr;simp at hr,fun k hk=>?_⟩
    by_cases ij:k=i
    · subst ij;exact h
    · have zN:=mem_ready.1 hk
      obtain ⟨cw,ok,aJ,dU⟩:=zN
      have tL:k ∉ D:=by
        intro tL
        rcases hD k tL with e | ⟨oj,kB,e,he,hb,wv⟩
        · exact ij e
        · rw[aJ] at kB
          simp only[cY.injEq] at kB
          subst kB
          have h1:=dU e he hb
          have h2:=hu e.on wv
          rw[eY] at h1 h2
          cases hx:aP[e.on]? with
          | none=>rw[hx] at h1;simp at h1
          | some b=>rw[hx] at h1 h2;simp at h1 h2;rw[h1] at h2;simp at h2
      obtain ⟨ha,hc⟩:=lT k ok aJ cw tL
      have h1:cW P ops qs i (cW P ops qs k (sB P ops qs K m ((aP.setIfInBounds i true).setIfInBounds k true))) σ :=
        uU (fun s hs=>hs.2 k (ready_mono hk ij)) h
      have h2:cW P ops qs k (cW P ops qs i (sB P ops qs K m ((aP.setIfInBounds i true).setIfInBounds k true))) σ:=by
        unfold cW at h1 ⊢
        simp only[hi,aJ] at h1 ⊢
        exact WM ha hc h1
      refine uU (fun s hs=>?_) h2
      refine ih (aP.setIfInBounds k true) s (fun j hj=>?_) (ready_mono hr (Ne.symm ij)) (fun j oj kB hl qf=>?_) ?_
      · have dm:k≠j:=fun e=>tL (by rw[e];exact hj)
        rw[getD_set_ne _ dm];exact hu j hj
      · refine lT j oj kB ?_ qf
        by_cases zO:k=j
        · subst zO;exact cw
        · rwa [getD_set_ne _ zO] at hl
      · rw[Array.setIfInBounds_comm _ _ (Ne.symm ij)] at hs
        exact hs
def FF (ops:Array Oper) (i:Nat):List Nat :=
  (aN ops.size).foldl (fun D j=>if j == i || (match ops[j]? with | some oj=>oj.after.any (fun e=>Region.binds .any e && D.contains e.on) | none=>false) then D++[j] else D) []
def Cm (ops:Array Oper) (qs:List Nat) (aP:Array Bool) (i:Nat) (D:List Nat):Bool :=
  match ops[i]? with
  | none=>false
  | some o =>
    D.contains i && D.all (fun j=>j == i || match ops[j]? with | some oj=>oj.after.any (fun e=>Region.binds .any e && D.contains e.on) | none=>false) &&
    D.all (fun j=>!aP.getD j true) && o.after.all (fun e=>!Region.binds .any e || aP.getD e.on false) &&
    (aN ops.size).all fun j=>D.contains j || aP.getD j true || match ops[j]? with | some oj=>o.apart ops oj && xU (fD (qs.contains i) o) (fD (qs.contains j) oj) | none=>true
theorem WT {ops:Array Oper} {qs:List Nat} {K:St→Prop} {i:Nat} {D:List Nat} {fuel:Nat} {aP:Array Bool} (h:Cm ops qs aP i D=true)
    (hs:cW P ops qs i (sB P ops qs K fuel (aP.setIfInBounds i true)) σ):sB P ops qs K (fuel+1) aP σ:=by
  unfold Cm at h
  cases hi:ops[i]? with
  | none=>simp[hi] at h
  | some o =>
    simp only[hi,bk,List.all_eq_true,tB,kv,beq_iff_eq,Bool.not_eq_true'] at h
    obtain ⟨⟨⟨⟨h1,h2⟩,h3⟩,h4⟩,h5⟩:=h
    refine WR hi D h1 (fun j hj=>?_) fuel aP σ h3 ?_ ?_ hs
    · rcases h2 j hj with h | h
      · exact .inl h
      · right
        split at h
        · rename_i oj kB
          rw[Array.any_eq_true'] at h
          obtain ⟨e,he,hb⟩:=h
          simp only[bk,tB] at hb
          exact⟨oj,kB,e,he,hb.1,hb.2⟩
        · simp at h
    · rw[mem_ready]
      refine⟨h3 i h1,o,hi,fun e he hb=>?_⟩
      rw[Array.all_eq_true'] at h4
      have:=h4 e he
      simpa [hb] using this
    · intro j oj kB hl qf
      have hj:j<ops.size:=(Array.getElem?_eq_some_iff.1 kB).1
      rcases h5 j (List.mem_range.2 hj) with (h | h) | h
      · exact absurd h qf
      · rw[hl] at h;simp at h
      · simpa [kB] using h
inductive PT where
  | nil
  | take (i:Nat) (t:PT)
  | both (i:Nat) (t:PT) (j:Nat) (u:PT)
  | three (i:Nat) (t:PT) (j:Nat) (u:PT) (k:Nat) (v:PT)
def PT.ok (ops:Array Oper) (qs:List Nat):PT→Nat→Array Bool→Bool
  | .nil,n,aP=>n == 0 && (Region.ready .any ops aP).isEmpty
  | .take _ _,0,_=>false
  | .take i t,n+1,aP=>Cm ops qs aP i (FF ops i) && t.ok ops qs n (aP.setIfInBounds i true)
  | .both _ _ _ _,0,_=>false
  | .both i t j u,n+1,aP=>(Region.ready .any ops aP == [i,j]) && t.ok ops qs n (aP.setIfInBounds i true) && u.ok ops qs n (aP.setIfInBounds j true)
  | .three _ _ _ _ _ _,0,_=>false
  | .three i t j u k v,n+1,aP=>(Region.ready .any ops aP == [i,j,k]) && t.ok ops qs n (aP.setIfInBounds i true) && u.ok ops qs n (aP.setIfInBounds j true) && v.ok ops qs n (aP.setIfInBounds k true)
def ja (P:Program) (ops:Array Oper) (qs:List Nat):PT→(St→Prop)→St→Prop
  | .nil,K,σ=>K σ
  | .take i t,K,σ=>cW P ops qs i (ja P ops qs t K) σ
  | .both i t j u,K,σ=>cW P ops qs i (ja P ops qs t K) σ∧cW P ops qs j (ja P ops qs u K) σ
  | .three i t j u k v,K,σ=>cW P ops qs i (ja P ops qs t K) σ∧cW P ops qs j (ja P ops qs u K) σ∧cW P ops qs k (ja P ops qs v K) σ
theorem wx {ops:Array Oper} {qs:List Nat} {K:St→Prop}:∀ (t:PT) (n:Nat) (aP:Array Bool) (σ:St),t.ok ops qs n aP=true→ja P ops qs t K σ→sB P ops qs K n aP σ
  | .nil,n,aP,σ,h,hp=>by
    simp only[PT.ok,bk,beq_iff_eq,List.isEmpty_iff] at h
    obtain ⟨rfl,h⟩:=h
    exact⟨h,hp⟩
  | .take _ _,0,_,_,h,_=>by simp[PT.ok] at h
  | .take i t,n+1,aP,σ,h,hp=>by
    simp only[PT.ok,bk] at h
    exact WT h.1 (uU (fun s hs=>wx t n _ s h.2 hs) hp)
  | .both _ _ _ _,0,_,_,h,_=>by simp[PT.ok] at h
  | .both i t j u,n+1,aP,σ,h,hp=>by
    simp only[PT.ok,bk,beq_iff_eq] at h
    obtain ⟨⟨h1,h2⟩,h3⟩:=h
    refine⟨fun e=>by rw[h1] at e;simp at e,fun k hk=>?_⟩
    rw[h1] at hk
    simp only[cu,ly,or_false] at hk
    rcases hk with rfl | rfl
    · exact uU (fun s hs=>wx t n _ s h2 hs) hp.1
    · exact uU (fun s hs=>wx u n _ s h3 hs) hp.2
  | .three _ _ _ _ _ _,0,_,_,h,_=>by simp[PT.ok] at h
  | .three i t j u k v,n+1,aP,σ,h,hp=>by
    simp only[PT.ok,bk,beq_iff_eq] at h
    obtain ⟨⟨⟨h1,h2⟩,h3⟩,h4⟩:=h
    refine⟨fun e=>by rw[h1] at e;simp at e,fun x hk=>?_⟩
    rw[h1] at hk
    simp only[cu,ly,or_false] at hk
    rcases hk with rfl | rfl | rfl
    · exact uU (fun s hs=>wx t n _ s h2 hs) hp.1
    · exact uU (fun s hs=>wx u n _ s h3 hs) hp.2.1
    · exact uU (fun s hs=>wx v n _ s h4 hs) hp.2.2
theorem jT {id:Nat} {ops:Array Oper} {Q:Exit→St→Prop} (qs:List Nat) (t:PT) (hm:P.follows .mixedOrders=true) (hd:gj N ops=true) (ht:t.ok ops qs ops.size (vZ ops.size false)=true)
    (h:ja P ops qs t (Q .normal) σ):W P N n0 (.region id ops true) Q σ :=
  WQ qs hm hd (wx t _ _ σ ht h)
theorem J' {id:Nat} {ops:Array Oper} {y:Code} {Q:Exit→St→Prop} (qs:List Nat) (t:PT) (hm:P.follows .mixedOrders=true) (hd:gj N ops=true) (ht:t.ok ops qs ops.size (vZ ops.size false)=true)
    (h:∀ K:St→Prop,(∀ s,W P N n0 y Q s→K s)→ja P ops qs t K σ):W P N n0 (.seq (.region id ops true) y) Q σ :=
  FG (jT qs t hm hd ht (h _ (fun _ h=>h)))
theorem uV {ops:Array Oper} {qs:List Nat} {K:St→Prop}:ja P ops qs .nil K σ=K σ:=rfl
theorem uW {ops:Array Oper} {qs:List Nat} {i:Nat} {t:PT} {K:St→Prop}:ja P ops qs (.take i t) K σ=cW P ops qs i (ja P ops qs t K) σ:=rfl
theorem Ka {ops:Array Oper} {qs:List Nat} {i j k:Nat} {t u v:PT} {K:St→Prop}:ja P ops qs (.three i t j u k v) K σ=(cW P ops qs i (ja P ops qs t K) σ∧cW P ops qs j (ja P ops qs u K) σ∧cW P ops qs k (ja P ops qs v K) σ):=rfl
theorem xV {ops:Array Oper} {qs:List Nat} {i j:Nat} {t u:PT} {K:St→Prop}:ja P ops qs (.both i t j u) K σ=(cW P ops qs i (ja P ops qs t K) σ∧cW P ops qs j (ja P ops qs u K) σ):=rfl
theorem Kb {q:Bool} {o:Oper} {K:St→Prop}:nC q P o K true true σ=kY q P o σ K:=by simp[nC]
theorem Kd {q:Bool} {o:Oper} {K:St→Prop}:nC q P o K false false σ=kY q P o σ K:=by simp[nC]
theorem Ke {q:Bool} {o:Oper} {K:St→Prop}:nC q P o K true false σ=K (σ.put o.dst (.lit (.tuple #[]))):=by simp[nC]
theorem Kf {q:Bool} {o:Oper} {K:St→Prop}:nC q P o K false true σ=K (σ.put o.dst (.lit (.tuple #[]))):=by simp[nC]
theorem WU {q:Bool} {o:Oper} {K:St→Prop} {b want:Bool} (h1:b=true→nC q P o K true want σ) (h2:b=false→nC q P o K false want σ):nC q P o K b want σ:=by
  cases b
  · exact h2 rfl
  · exact h1 rfl
def jb:List Nat→PT
  | []=>.nil
  | i::r=>.take i (jb r)
end Go.Am
namespace Go.Am
variable {P:Program} {N n0:Nat} {σ:St} {Q:Exit→St→Prop}
def aw:List (Nat × AV)→Nat→AV
  | []=>fun _=>.undef
  | p::l=>iM (aw l) p.1 p.2
theorem Co (d:Nat) (v:AV) (l:List (Nat × AV)):aw ((d,v)::l)=iM (aw l) d v:=rfl
theorem Cp (l:List (Nat × AV)) (k:Nat):aw l k=.undef∨∃ p∈l,p.1=k∧aw l k=p.2:=by
  induction l with
  | nil=>exact .inl rfl
  | cons p l ih =>
    by_cases h:k=p.1
    · right
      exact⟨p,by simp,h.symm,by simp[aw,iM,h]⟩
    · have e:aw (p::l) k=aw l k:=by simp[aw,iM,h]
      rw[e]
      rcases ih with h | ⟨q,hq,h1,h2⟩
      · exact .inl h
      · exact .inr ⟨q,by simp[hq],h1,h2⟩
def Has (e:Nat→AV):List (Nat × AV)→Prop
  | []=>True
  | p::l=>e p.1=p.2∧Has e l
theorem Has.mem {e:Nat→AV}:∀ {l:List (Nat × AV)},Has e l→∀ p∈l,e p.1=p.2
  | q::l,h,p,hp=>by
    rcases cu.1 hp with rfl | hp
    · exact h.1
    · exact Has.mem h.2 p hp
theorem aB.aw (l:List (Nat × AV)) (os:List Ob) (ho:σ.aa=os) (h:Has σ.env l):aB n0 σ ⟨aw l,os⟩:=by
  subst ho
  refine aB.forget fun k=>?_
  rcases Cp l k with h' | ⟨p,hp,rfl,h'⟩
  · exact .inl h'
  · right;rw[h',h.mem p hp]
def nE (ρ:Nat→Nat) (os:List Ob):List Nat→List Ob→Prop
  | [],[]=>True
  | i::ak,o::co=>(i<os.length∧(o=.gone∨os[i]?=some (bO ρ o)))∧nE ρ os ak co
  | _,_=>False
theorem nE.spec {ρ:Nat→Nat} {os:List Ob}:∀ {ak:List Nat} {co:List Ob},nE ρ os ak co→co.length=ak.length∧(∀ (j:Nat) o,co[j]?=some o→o=.gone∨os[ak.getD j 0]?=some (bO ρ o))∧∀ i∈ak,i<os.length
  | [],[],_=>⟨rfl,by simp,by simp⟩
  | i::ak,o::co,h=>by
    obtain ⟨⟨h1,h2⟩,h3⟩:=h
    obtain ⟨a,b,c⟩:=nE.spec h3
    refine⟨by simp[a],fun j o' hj=>?_,fun x hx=>?_⟩
    · cases j with
      | zero=>simp at hj;subst hj;simpa using h2
      | succ j=>simpa using b j o' (by simpa using hj)
    · rcases cu.1 hx with rfl | hx
      · exact h1
      · exact c x hx
def qg (R:AV→AV→Prop) (e:Nat→AV):List (Nat × AV)→Prop
  | []=>True
  | p::l=>R p.2 (e p.1)∧qg R e l
theorem qg.mem {R:AV→AV→Prop} {e:Nat→AV}:∀ {l:List (Nat × AV)},qg R e l→∀ p∈l,R p.2 (e p.1)
  | q::l,h,p,hp=>by
    rcases cu.1 hp with rfl | hp
    · exact h.1
    · exact qg.mem h.2 p hp
def kept (ak:List Nat) (co:List Ob) (id:Nat):Prop:=∃ j,j<ak.length∧ak.getD j 0=id∧co[j]?≠some .gone
theorem aB.ak (ak:List Nat) (snap:Bool) (l:List (Nat × AV)) (co:List Ob) (cC:ak.Nodup) (ho:nE (br σ.aa.length ak) σ.aa ak co) (hn:n0≤ak.length) (cV:∀ i,i<n0→ak.getD i 0=i)
    (h:qg (aE σ (kept ak co) (br σ.aa.length ak) snap) σ.env l):aB n0 σ ⟨Am.aw l,co⟩:=by
  obtain ⟨h1,h2,h3⟩:=ho.spec
  refine aB.select ak snap co _ cC h1 h2 h3 hn cV fun k=>?_
  rcases Cp l k with h' | ⟨p,hp,rfl,h'⟩
  · exact .inl h'
  · right;rw[h'];exact h.mem p hp
theorem aE.pure {kp:Nat→Prop} {ρ:Nat→Nat} {snap:Bool} {v:AV} (h:eZ v=true):aE σ kp ρ snap v v:=by
  have:=aE.same (σ:=σ) (kp:=kp) (ρ:=ρ) (snap:=snap) v
  rwa [wy _ v h] at this
theorem aE.eq {kp:Nat→Prop} {ρ:Nat→Nat} {snap:Bool} {v u:AV} (h:u=a6 ρ v):aE σ kp ρ snap v u:=by
  subst h;exact .same v
theorem cg.flat {kp:Nat→Prop} {id sz len:Nat} {rows:List (List AV)} (ho:σ.aa[id]?=some (.arr sz rows)) (hw:∀ row∈rows,row.length=sz) (hl:len=rows.length) (qc:¬ kp id) (hf:∀ row∈rows,∀ v∈row,(∃ x,v=.lit x)∨∃ s r,v=.tree s r) :
    cg σ kp (.tree sz rows) (.ref id sz 0 len):=by
  refine .ref id sz 0 len rows rows (fun r c=>(cellAt rows r c).getD .undef) ho qc (by simp[hl]) hw (fun r c v hv=>?_) (fun r c v hv=>?_)
  · simp[hl,hv]
  · rw[hv,Option.getD_some]
    simp only[cellAt,Option.bind_eq_some_iff] at hv
    obtain ⟨row,h1,h2⟩:=hv
    rcases hf row (gB h1) v (gB h2) with ⟨x,rfl⟩ | ⟨s,r,rfl⟩
    · exact .lit x
    · exact .tree s r
theorem aE.nil {kp:Nat→Prop} {ρ:Nat→Nat} {sz:Nat}:aE σ kp ρ true (.tree sz []) (.lit (.slice none 0 0)):=.snap _ _ rfl (.nil sz)
theorem aE.bW {kp:Nat→Prop} {ρ:Nat→Nat} {id sz len:Nat} {rows:List (List AV)} (ho:σ.aa[id]?=some (.arr sz rows)) (hw:∀ row∈rows,row.length=sz) (hl:len=rows.length) (qc:¬ kp id) (hf:∀ row∈rows,∀ v∈row,(∃ x,v=.lit x)∨∃ s r,v=.tree s r) :
    aE σ kp ρ true (.tree sz rows) (.ref id sz 0 len):=.snap _ _ rfl (cg.flat ho hw hl qc hf)
def WV {α:Type} (n0:Nat) (S:α→St) (I:α→Prop) (M:α→Nat) (x:α) (Q:Exit→St→Prop):Exit→St→Prop
  | .normal,s=>∃ y,I y∧M y<M x∧aB n0 s (S y)
  | e,s=>Q e s
theorem WW {α:Type} {c:Code} (S:α→St) (I:α→Prop) (M:α→Nat) (x0:α) (hI:I x0) (h0:aB n0 σ (S x0)) (round:∀ x,I x→∀ Q':Exit→St→Prop,(∀ s y,I y→M y<M x→aB n0 s (S y)→Q' .normal s)→(∀ e s,e≠.normal→Q e s→Q' e s)→W P N n0 c Q' (S x)):W P N n0 (.loop c) Q σ:=by
  refine bJ h0 ?_
  intro os γ0 a w hn aJ b k cs
  have key:∀ n x a w,M x=n→I x→gI N os γ0 (S x) a w →
      ∃ e a' w',(∃ σ',Q e σ'∧gI N os γ0 σ' a' w')∧Arrives P (lone (b.at a (.code c::.inLoop c::k)) cs w) b k cs e a' w':=by
    intro n
    induction n using Nat.strongRecOn with
    | _ n ih =>
      intro x a w hm hI aJ
      have hr:W P N n0 c (WV n0 S I M x Q) (S x):=round x hI _ (fun s y h1 h2 h3=>⟨y,h1,h2,h3⟩) (fun e s he h=>by cases e<;>first|exact absurd rfl he|exact h)
      obtain ⟨e,xW,zP,⟨σ',hq,e7⟩,kc⟩:=hr os γ0 a w hn aJ b (.inLoop c::k) cs
      cases e with
      | normal =>
        obtain ⟨y,WX,bw,ht⟩:=hq
        obtain ⟨h1,h2,γ,rfl,h3,h4,h5⟩:=e7
        obtain ⟨aF,e1,e2,e3,e4⟩:=ht os γ0 γ hn h4 h5
        obtain ⟨WY,WZ,W0,W1,W2⟩:=ih (M y) (by omega) y xW γ.w rfl WX ⟨h1,h2,aF,e1,e2.trans h3,e3,e4⟩
        exact⟨WY,WZ,W0,W1,.of_steps (Steps.trans kc (.one step_inLoop)) W2⟩
      | exit id=>exact⟨_,xW,zP,⟨σ',hq,e7⟩,.pass (x:=.inLoop c) rfl (fun _ _=>.inl (by simp)) kc⟩
      | goto l=>exact⟨_,xW,zP,⟨σ',hq,e7⟩,.pass (x:=.inLoop c) rfl (fun _ _=>.inl (by simp)) kc⟩
      | ret=>exact⟨_,xW,zP,⟨σ',hq,e7⟩,.pass (x:=.inLoop c) rfl (fun _ _=>.inl (by simp)) kc⟩
      | panic ch=>exact⟨_,xW,zP,⟨σ',hq,e7⟩,.pass (x:=.inLoop c) rfl (fun _ _=>.inl (by simp)) kc⟩
      | outgrown=>exact⟨_,xW,zP,⟨σ',hq,e7⟩,.pass (x:=.inLoop c) rfl (fun _ _=>.inl (by simp)) kc⟩
  obtain ⟨e,a',w',hq,kc⟩:=key _ x0 a w rfl hI aJ
  exact⟨e,a',w',hq,.of_steps (.one step_loop) kc⟩
theorem W3 {id:Nat} {c:Code} (h:∀ Q':Exit→St→Prop,(∀ s,Q .normal s→Q' .normal s)→(∀ s,Q .normal s→Q' (.exit id) s)→(∀ e s,e≠.normal→e≠.exit id→Q e s→Q' e s)→W P N n0 c Q' σ):W P N n0 (.block id c) Q σ :=
  W4 (h _ (fun s h=>h) (fun s h=>by simp only[Cq,if_true];exact h) (fun e s h1 h2 h=>by
    cases e<;>first
      | exact absurd rfl h1
      | exact h
      | (rename_i wz;simp only[Cq];rw[if_neg (fun e=>h2 (by rw[e]))];exact h)))
theorem zQ {ρ:Nat→Nat} {sz:Nat} {rows:List (List AV)} (h:∀ row∈rows,gX row=true):bO ρ (.arr sz rows)=.arr sz rows:=by
  simp only[bO]
  congr 1
  have:∀ row∈rows,row.map (a6 ρ)=row:=fun row hr=>by
    have:=xX ρ row (h row hr)
    rwa [tM] at this
  rw[kU this]
  simp
theorem W5 (n j:Nat):br n (aN n) j=j:=by
  unfold br
  split
  · rename_i h
    have h':j<n:=by simpa using h
    simp[aA,oB h']
  · rename_i h
    simp at h ⊢
    omega
mutual
theorem uX:∀ (v:AV),a6 (fun j=>j) v=v
  | .undef=>rfl
  | .lit _=>rfl
  | .tree ..=>rfl
  | .b7 _=>rfl
  | .ref ..=>rfl
  | .ptr ..=>rfl
  | .agg cs=>by simp only[a6];rw[Cr cs]
  | .bG cs=>by simp only[a6];rw[Cr cs]
  | .fn f cs=>by simp only[a6];rw[Cr cs]
  | .gJ t v=>by simp only[a6];rw[uX v]
  | .gk _=>rfl
theorem Cr:∀ (l:List AV),nF (fun j=>j) l=l
  | []=>rfl
  | v::vs=>by simp only[nF];rw[uX v,Cr vs]
end
theorem zR (o:Ob):bO (fun j=>j) o=o:=by
  have h:a6 (fun j=>j)=id:=by funext v;exact uX v
  cases o with
  | gone=>rfl
  | var cs=>simp[bO,h]
  | arr sz rows=>simp[bO,h]
  | mp ag L=>simp[bO,h]
theorem uY (n:Nat):br n (aN n)=fun j=>j:=by funext j;exact W5 n j
theorem Kg (aa:List Ob):∀ (a8:List Ob),aa.length≤a8.length→dV aa (aN aa.length) a8=a8:=by
  intro a8 h
  have hlen:(aN aa.length).length≤a8.length:=by simpa using h
  apply List.ext_getElem?
  intro i
  rcases Nat.lt_or_ge i aa.length with hi | hi
  · have:=Cs (aN aa.length) aa a8 hlen (JA) (by simp) i (by simpa using hi)
    simpa [aA,oB hi] using this
  · have Kh:=FH (aN aa.length) aa a8 hlen
    obtain ⟨j,rfl⟩ :∃j,i=aa.length+j:=⟨i - aa.length,by omega⟩
    have:=Ki (aN aa.length) aa a8 hlen j
    simpa using this
theorem lB {f:FuncId} {args:List AV} {dst:Option Tmp} {K:St→Prop} {res:AV} {a8:List Ob} (h:an P f args σ.aa res a8) (hl:σ.aa.length≤a8.length) (hK:K ((⟨σ.env,a8⟩:St).put dst res)):pt P f args dst K σ:=by
  refine⟨aN σ.aa.length,false,args,σ.aa,res,a8,h,⟨JA,by simp,?_,rfl,?_,by simp⟩,?_⟩
  · intro j o hj
    have bw:=(aQ.1 hj).1
    rw[uY,zR]
    simpa [aA,oB bw] using hj
  · intro j c d hc hd
    rw[hc] at hd
    simp only[cY.injEq] at hd
    subst hd
    exact .eq (by rw[uY,uX])
  · rw[uY,uX]
    have:a8.map (bO (fun j=>j))=a8:=by
      have h:bO (fun j=>j)=id:=by funext o;exact zR o
      simp[h]
    rw[this,Kg _ _ hl]
    exact hK
end Go.Am
namespace Go.Am
variable {P:Program} {N n0:Nat} {σ:St} {Q:Exit→St→Prop}
theorem W6 {id:Nat} {ops:Array Oper} (hd:gj N ops=true) (h:∀ K:St→Prop,(∀ s,Q .normal s→K s)→opsL P ops ops.toList K σ):W P N n0 (.region id ops false) Q σ :=
  Kj hd (h _ (fun _ h=>h))
theorem FI {ops:Array Oper} {K:St→Prop}:∀ (l:List Oper) (i:Nat) (σ:St),ops.toList.drop i=l→opsL P ops l K σ→ja P ops [] (jb (mn i l.length)) K σ
  | [],i,σ,_,h=>h
  | o::r,i,σ,hl,h=>by
    have hi:ops[i]?=some o:=by
      have:(ops.toList.drop i)[0]?=some o:=by rw[hl];rfl
      simpa using this
    have hr:ops.toList.drop (i+1)=r:=by
      have:=congrArg List.tail hl
      simpa [List.tail_drop] using this
    rw[dH,uJ]
    show cW P ops [] i (ja P ops [] (jb (mn (i+1) r.length)) K) σ
    unfold cW
    simp only[hi]
    have hm:∀ s,opsL P ops r K s→ja P ops [] (jb (mn (i+1) r.length)) K s:=fun s hs=>FI r (i+1) s hr hs
    refine zL hm ?_
    unfold opsL at h
    unfold dT
    cases hg:o.guard with
    | none=>simp only[hg] at h;exact h
    | some jw =>
      obtain ⟨j,want⟩:=jw
      simp only[hg] at h
      exact h
def wA (ops:Array Oper):Bool:=(jb (aN ops.size)).ok ops [] ops.size (vZ ops.size false)
theorem W7 {id:Nat} {ops:Array Oper} {y:Code} (hm:P.follows .mixedOrders=true) (hd:gj N ops=true) (ht:wA ops=true) (h:∀ K:St→Prop,(∀ s,W P N n0 y Q s→K s)→opsL P ops ops.toList K σ) :
    W P N n0 (.seq (.region id ops true) y) Q σ :=
  J' [] _ hm hd ht fun K hK=>by
    have:=FI (P:=P) (ops:=ops) ops.toList 0 σ rfl (h K hK)
    rw[uK]
    simpa using this
theorem W8 {id:Nat} {ops:Array Oper} (hm:P.follows .mixedOrders=true) (hd:gj N ops=true) (ht:wA ops=true) (h:∀ K:St→Prop,(∀ s,Q .normal s→K s)→opsL P ops ops.toList K σ) :
    W P N n0 (.region id ops true) Q σ :=
  jT [] _ hm hd ht (by
    have:=FI (P:=P) (ops:=ops) ops.toList 0 σ rfl (h _ (fun _ h=>h))
    rw[uK]
    simpa using this)
theorem aK {v res:AV} (hr:eZ v=true) (h:v=res):mT 0 σ v res []:=by
  subst h;exact Cu hr
theorem Cv (e:Nat→AV) (d:Nat) (v:AV) (k:Nat):iM e d v k=if k=d then v else e k:=by simp only[iM]
theorem Kk:IntKind.i64.min = -9223372036854775808:=rfl
theorem Kl:IntKind.i64.max=9223372036854775807:=rfl
def ints (xs:List Int):List (List AV):=xs.map fun x=>[.lit (.int .i64 x)]
def aY (xs:List Bool):List (List AV):=xs.map fun x=>[.lit (.bool x)]
def fE (xs:List (List Int)):List (List AV):=xs.map fun x=>[.tree 1 (ints x)]
theorem kd (xs:List Int):(ints xs).length=xs.length:=by simp[ints]
theorem wB (xs:List Bool):(aY xs).length=xs.length:=by simp[aY]
theorem qh (xs:List (List Int)):(fE xs).length=xs.length:=by simp[fE]
theorem Km (xs:List Int) (i:Nat) (h:i<xs.length):(ints xs).getD i []=[.lit (.int .i64 (xs.getD i 0))]:=by simp[ints,h]
theorem Kn (xs:List Bool) (i:Nat) (h:i<xs.length):(aY xs).getD i []=[.lit (.bool (xs.getD i false))]:=by simp[aY,h]
theorem Ko (xs:List (List Int)) (i:Nat) (h:i<xs.length):(fE xs).getD i []=[.tree 1 (ints (xs.getD i []))]:=by simp[fE,h]
theorem Kp (xs:List Int) (i:Nat) (h:i<xs.length):(ints xs)[i]?=some [.lit (.int .i64 (xs.getD i 0))]:=by simp[ints,h]
theorem Kq (xs:List Bool) (i:Nat) (h:i<xs.length):(aY xs)[i]?=some [.lit (.bool (xs.getD i false))]:=by simp[aY,h]
theorem Kr (xs:List (List Int)) (i:Nat) (h:i<xs.length):(fE xs)[i]?=some [.tree 1 (ints (xs.getD i []))]:=by simp[fE,h]
theorem ints_set (xs:List Int) (i:Nat) (v:Int):(ints xs).set i [.lit (.int .i64 v)]=ints (xs.set i v):=by simp[ints,tC]
theorem FJ (xs:List Bool) (i:Nat) (v:Bool):(aY xs).set i [.lit (.bool v)]=aY (xs.set i v):=by simp[aY,tC]
theorem Ks (xs ys:List Int):ints xs++ints ys=ints (xs++ys):=by simp[ints]
theorem Cw (xs:List Int) (v:Int):ints xs++[[.lit (.int .i64 v)]]=ints (xs++[v]):=by simp[ints]
theorem FL (xs:List (List Int)) (v:List Int):fE xs++[[.tree 1 (ints v)]]=fE (xs++[v]):=by simp[fE]
theorem Kt (xs:List Bool) (v:Bool):aY xs++[[.lit (.bool v)]]=aY (xs++[v]):=by simp[aY]
theorem xY (n:Nat) (v:Int):bY n [AV.lit (.int .i64 v)]=ints (bY n v):=by simp[ints]
theorem FM (n:Nat) (v:Bool):bY n [AV.lit (.bool v)]=aY (bY n v):=by simp[aY]
theorem xZ (xs:List Int):((ints xs).all fun row=>row.all cf)=true:=by simp[ints,cf,Value.oneCell']
theorem Ku (xs:List Bool):((aY xs).all fun row=>row.all cf)=true:=by simp[aY,cf,Value.oneCell']
theorem Kv (xs:List (List Int)):((fE xs).all fun row=>row.all cf)=true:=by simp[fE,cf]
theorem oD (ρ:Nat→Nat) (sz:Nat) (xs:List Int):bO ρ (.arr sz (ints xs))=.arr sz (ints xs):=zQ (by simp[ints,gX,eZ])
theorem x5 (ρ:Nat→Nat) (sz:Nat) (xs:List Bool):bO ρ (.arr sz (aY xs))=.arr sz (aY xs):=zQ (by
  intro row hr
  simp only[aY,ca] at hr
  obtain ⟨x,_,rfl⟩:=hr
  rfl)
theorem Cy (ρ:Nat→Nat) (sz:Nat) (xs:List (List Int)):bO ρ (.arr sz (fE xs))=.arr sz (fE xs):=zQ (by simp[fE,gX,eZ])
theorem pw (xs:List Int):∀ row∈ints xs,∀ v∈row,(∃ x,v=AV.lit x)∨∃ s r,v=AV.tree s r:=by
  intro row hr v hv
  simp only[ints,ca] at hr
  obtain ⟨x,_,rfl⟩:=hr
  simp at hv
  exact .inl ⟨_,hv⟩
theorem Cz (xs:List Bool):∀ row∈aY xs,∀ v∈row,(∃ x,v=AV.lit x)∨∃ s r,v=AV.tree s r:=by
  intro row hr v hv
  simp only[aY,ca] at hr
  obtain ⟨x,_,rfl⟩:=hr
  simp at hv
  exact .inl ⟨_,hv⟩
theorem Kw (xs:List (List Int)):∀ row∈fE xs,∀ v∈row,(∃ x,v=AV.lit x)∨∃ s r,v=AV.tree s r:=by
  intro row hr v hv
  simp only[fE,ca] at hr
  obtain ⟨x,_,rfl⟩:=hr
  simp at hv
  exact .inr ⟨_,_,hv⟩
theorem oE (xs:List Int):∀ row∈ints xs,row.length=1:=by
  intro row hr;simp only[ints,ca] at hr;obtain ⟨x,_,rfl⟩:=hr;rfl
theorem zS (xs:List Bool):∀ row∈aY xs,row.length=1:=by
  intro row hr;simp only[aY,ca] at hr;obtain ⟨x,_,rfl⟩:=hr;rfl
theorem Kx (xs:List (List Int)):∀ row∈fE xs,row.length=1:=by
  intro row hr;simp only[fE,ca] at hr;obtain ⟨x,_,rfl⟩:=hr;rfl
theorem cA {α:Type} (xs:List α) (i:Nat) (d:α) (h:i<xs.length):xs.drop i=xs.getD i d::xs.drop (i+1):=by
  rw[List.drop_eq_getElem_cons h];simp[h]
end Go.Am
namespace Go.Am
variable {P:Program} {dst:Option Tmp} {tt:TypeId} {p:String} {af:Array Edge} {g:Option (Nat × Bool)} {σ:St} {K:St→Prop}
def nG:Option Ob→Prop
  | some (.var _)=>True
  | some (.arr _ _)=>True
  | some (.mp _ _)=>True
  | _=>False
theorem Ky (a:Nat) (L:List (List Int × AV)):nG (some (.mp a L))=True:=by simp only[nG]
theorem Kz (c:List AV):nG (some (.var c))=True:=by simp only[nG]
theorem KA (s:Nat) (c:List (List AV)):nG (some (.arr s c))=True:=by simp only[nG]
def x6 (σ:St) (dst:Option Tmp) (K:St→Prop):AV→Prop
  | .ptr id r c=>nG σ.aa[id]?∧K (σ.put dst (.ptr id r c))
  | .b7 cells=>K (σ.put dst (.b7 cells))
  | _=>False
theorem KB (x:Operand):ba P ⟨dst,.nilCheck x,tt,p,af,g⟩ σ K=x6 σ dst K (ev σ x):=by
  simp only[ba,cp]
  cases ev σ x<;>simp only[x6]
  rename_i id r c
  cases h:σ.aa[id]? with
  | none=>simp[nG]
  | some o=>cases o<;>simp[nG]
def x7 (σ:St) (dst:Option Tmp) (K:St→Prop) (off:Nat):AV→Prop
  | .ptr id r c=>nG σ.aa[id]?∧K (σ.put dst (.ptr id r (c+off)))
  | .b7 cells=>K (σ.put dst (.b7 (cells.drop off)))
  | _=>False
def uZ (σ:St) (dst:Option Tmp) (K:St→Prop) (v:AV) (kind:Nat):Option (Nat × Nat × Nat)→Prop
  | some (off,_,size)=>kind=3∧0<size∧x7 σ dst K off v
  | none=>False
theorem KC (s:TypeId) (x:Operand) (f:Nat):ba P ⟨dst,.fieldAddr s x f,tt,p,af,g⟩ σ K=uZ σ dst K (ev σ x) (ty P s).kind (ty P s).aL[f]?:=by
  simp only[ba,cp]
  split
  · rename_i off ft size hk hf
    rw[hk,hf]
    simp only[uZ,true_and]
    cases ev σ x<;>simp only[x7]
    rename_i id r c
    cases h:σ.aa[id]? with
    | none=>simp[nG]
    | some o=>cases o<;>simp[nG]
  · rename_i dm
    cases hf:(ty P s).aL[f]? with
    | none=>simp[uZ]
    | some q =>
      obtain ⟨off,ft,size⟩:=q
      simp only[uZ]
      have:(ty P s).kind≠3:=fun e=>dm off ft size e hf
      simp[this]
def q7 (t:Ty) (e:Ty) (σ:St) (dst:Option Tmp) (K:St→Prop):AV→AV→Prop
  | .ref id sz off len,.lit (.int _ n) =>
    t.kind=1 ∧
    match σ.aa[id]? with
    | some (.arr cO _)=>(cO=sz∧sz=e.size∧e.kind≠99∧0≤n∧n<len)∧K (σ.put dst (.ptr id (off+n.toNat) 0))
    | _=>False
  | .tree sz rows,.lit (.int _ n)=>t.kind=1∧(sz=e.size∧e.kind≠99∧0≤n∧n<rows.length)∧K (σ.put dst (.b7 (rows.getD n.toNat [])))
  | .ptr id r c,.lit (.int _ n)=>t.kind=2∧nG σ.aa[id]?∧(e.kind≠99∧0≤n∧n<t.len)∧K (σ.put dst (.ptr id r (c+n.toNat * e.size)))
  | _,_=>False
theorem KD (t:TypeId) (x i:Operand):ba P ⟨dst,.indexAddr t x i,tt,p,af,g⟩ σ K=q7 (ty P t) (ty P (ty P t).elem) σ dst K (ev σ x) (ev σ i):=by
  simp only[ba,cp]
  split
  · rename_i id sz off len k n hk hx hi
    rw[hx,hi];simp only[q7,hk,true_and]
    cases σ.aa[id]? with
    | none=>rfl
    | some o=>cases o<;>rfl
  · rename_i sz rows k n hk hx hi
    rw[hx,hi];simp only[q7,hk,true_and]
  · rename_i id r c k n hk hx hi
    rw[hx,hi];simp only[q7,hk,true_and]
    cases h:σ.aa[id]? with
    | none=>simp[nG]
    | some o=>cases o<;>simp[nG]
  · rename_i h1 h2 h3
    unfold q7
    split
    · rename_i id sz off len k n hx hi
      simp only[eq_iff_iff,false_iff]
      rintro ⟨hk,_⟩
      exact h1 id sz off len k n hk hx hi
    · rename_i sz rows k n hx hi
      simp only[eq_iff_iff,false_iff]
      rintro ⟨hk,_⟩
      exact h2 sz rows k n hk hx hi
    · rename_i id r c k n hx hi
      simp only[eq_iff_iff,false_iff]
      rintro ⟨hk,_⟩
      exact h3 id r c k n hk hx hi
    · rfl
def FN (P:Program) (dst:Option Tmp) (args:List AV) (K:St→Prop) (σ:St):AV→Prop
  | .fn g aW=>pt P g (args++aW) dst K σ
  | _=>False
theorem KE (f:Operand) (args:Array Operand) (fl:Array TypeId):ba P ⟨dst,.call ⟨.value f,args,fl⟩,tt,p,af,g⟩ σ K=FN P dst (args.toList.map (ev σ)) K σ (ev σ f):=by
  simp only[ba]
  cases ev σ f<;>rfl
def FO (P:Program) (dst:Option Tmp) (args:List AV) (K:St→Prop) (σ:St) (m:String):AV→Prop
  | .gJ t v=>nD P σ v (fun g x=>pt P g (x::args) dst K σ) (u3 P t m)
  | _=>False
theorem KF (r:Operand) (m:String) (args:Array Operand) (fl:Array TypeId):ba P ⟨dst,.call ⟨.invoke r m,args,fl⟩,tt,p,af,g⟩ σ K=FO P dst (args.toList.map (ev σ)) K σ m (ev σ r):=by
  simp only[ba]
  cases ev σ r<;>rfl
def FQ (P:Program) (dst:Option Tmp) (args:List AV) (K:St→Prop) (σ:St):AV→Prop
  | .fn g aW=>FB P g (args++aW) dst K σ
  | _=>False
theorem KG (f:Operand) (args:Array Operand) (fl:Array TypeId):kY true P ⟨dst,.call ⟨.value f,args,fl⟩,tt,p,af,g⟩ σ K=FQ P dst (args.toList.map (ev σ)) K σ (ev σ f):=by
  simp only[kY]
  cases ev σ f<;>rfl
def sC (σ:St):List (Nat × Operand)→List (Nat × AV)
  | []=>[]
  | q::l=>(q.1,ev σ q.2)::sC σ l
def sE (σ:St):List (Nat × Operand)→Bool
  | []=>true
  | q::l=>(cellsOf (ev σ q.2)).all cf && sE σ l
theorem KH (σ:St) (l:List (Nat × Operand)):sC σ l=l.map fun q=>(q.1,ev σ q.2):=by
  induction l with
  | nil=>rfl
  | cons q l ih=>simp only[sC,ih,List.map_cons]
theorem KI (σ:St) (l:List (Nat × Operand)):sE σ l=l.all fun q=>(cellsOf (ev σ q.2)).all cf:=by
  induction l with
  | nil=>rfl
  | cons q l ih=>simp only[sE,ih,List.all_cons]
theorem KJ (o:Oper):kY false P o σ K=ba P o σ K:=by simp only[kY]
theorem KK (x:Operand):ba P ⟨dst,.move x,tt,p,af,g⟩ σ K =
    (K (σ.put dst (ev σ x))):=by unfold ba cp;rfl
theorem KL (x:Operand):ba P ⟨dst,.assign x,tt,p,af,g⟩ σ K =
    (K (σ.put dst (ev σ x))):=by unfold ba cp;rfl
theorem KM (c a b:Operand):ba P ⟨dst,.pick c a b,tt,p,af,g⟩ σ K =
    (match ev σ c with
      | .lit (.bool t)=>K (σ.put dst (fm t (ev σ a) (ev σ b)))
      | _=>False):=by unfold ba cp;rfl
theorem KN (e:TypeId):ba P ⟨dst,.alloc e,tt,p,af,g⟩ σ K =
    ((ty P e).kind≠99 ∧
      match (ty P e).zero with
      | some z=>K (({ σ with aa:=σ.aa++[.var (z.map .lit)] }:St).put dst (.ptr σ.aa.length 0 0))
      | none=>False):=by unfold ba cp;rfl
theorem KO (e:TypeId) (x:Operand):ba P ⟨dst,.box e x,tt,p,af,g⟩ σ K =
    ((cellsOf (ev σ x)).all cf=true∧K (({ σ with aa:=σ.aa++[.var (cellsOf (ev σ x))] }:St).put dst (.ptr σ.aa.length 0 0))):=by unfold ba cp;rfl
theorem KP (t:TypeId) (parts:Array (Nat × Operand)):ba P ⟨dst,.build t parts,tt,p,af,g⟩ σ K =
    (match (ty P t).kind,(ty P t).zero with
      | 3,some z =>
        match lC (fun i=>((ty P t).aL[i]?).map fun f=>(f.1,f.2.2)) (z.map .lit) (sC σ parts.toList) with
        | some cs=>(sE σ parts.toList=true∧((ty P t).aL.all fun f=>decide (0<f.2.2))=true)∧K (σ.put dst (.agg cs))
        | none=>False
      | 2,some z =>
        match lC (fun i=>some (i * (ty P (ty P t).elem).size,(ty P (ty P t).elem).size)) (z.map .lit) (sC σ parts.toList) with
        | some cs=>(sE σ parts.toList=true∧(ty P (ty P t).elem).kind≠99)∧K (σ.put dst (.agg cs))
        | none=>False
      | _,_=>False):=by rw[KH,KI];unfold ba cp;rfl
theorem KQ (t:TypeId) (len:Nat) (parts:Array (Nat × Operand)):ba P ⟨dst,.buildSlice t len parts,tt,p,af,g⟩ σ K =
    (match (ty P t).kind,(ty P (ty P t).elem).zero with
      | 1,some z =>
        match lC (fun i=>some (i * (ty P (ty P t).elem).size,(ty P (ty P t).elem).size)) ((aN len).flatMap fun _=>z.map .lit) (sC σ parts.toList) with
        | some cs=>((ty P (ty P t).elem).kind≠99∧0<(ty P (ty P t).elem).size∧z.length=(ty P (ty P t).elem).size∧len * (ty P (ty P t).elem).size≤16777216∧sE σ parts.toList=true) ∧
            K (({ σ with aa:=σ.aa++[.arr (ty P (ty P t).elem).size (lD (ty P (ty P t).elem).size len cs)] }:St).put dst (.ref σ.aa.length (ty P (ty P t).elem).size 0 len))
        | none=>False
      | _,_=>False):=by rw[KH,KI];unfold ba cp;rfl
theorem KR (t:TypeId) (a:Operand):ba P ⟨dst,.load t a,tt,p,af,g⟩ σ K =
    ((ty P t).kind≠99 ∧
      match ev σ a with
      | .ptr id r c =>
        match rowOf σ id r with
        | some row=>lA (ty P t) row c fun v=>K (σ.put dst v)
        | none=>False
      | .b7 cells=>lA (ty P t) cells 0 fun v=>K (σ.put dst v)
      | _=>False):=by unfold ba cp;rfl
theorem KS (t:TypeId) (a x:Operand):ba P ⟨dst,.store t a x,tt,p,af,g⟩ σ K =
    ((ty P t).kind≠99 ∧
      match ev σ a with
      | .ptr id r c =>
        match rowOf σ id r with
        | some row=>((cellsOf (ev σ x)).length=(ty P t).size∧c+(ty P t).size≤row.length∧(cellsOf (ev σ x)).all cf=true)∧K ((mU σ id r (setCells row c (cellsOf (ev σ x)))).put dst .undef)
        | none=>False
      | _=>False):=by unfold ba cp;rfl
theorem KT (op:BinOp) (t:TypeId) (x y:Operand) (yt:TypeId):ba P ⟨dst,.binOp op t x y yt,tt,p,af,g⟩ σ K =
    (match ev σ x,ev σ y with
      | .lit (.int k a),.lit (.int k' b)=>k=k'∧fP op k a b fun v=>K (σ.put dst (.lit v))
      | .lit (.bool a),.lit (.bool b) =>
        (ty P t).kind=6 ∧
        match op with
        | .eql=>K (σ.put dst (.lit (.bool (a == b))))
        | .neq=>K (σ.put dst (.lit (.bool (a != b))))
        | _=>False
      | .tree _ rows,.lit (.slice none 0 0) =>
        ((ty P t).kind=1∧0<rows.length) ∧
        match op with
        | .eql=>K (σ.put dst (.lit (.bool false)))
        | .neq=>K (σ.put dst (.lit (.bool true)))
        | _=>False
      | .lit (.slice a _ _),.lit (.slice none 0 0) =>
        (ty P t).kind=1 ∧
        match op with
        | .eql=>K (σ.put dst (.lit (.bool a.isNone)))
        | .neq=>K (σ.put dst (.lit (.bool (!a.isNone))))
        | _=>False
      | .agg cs,.agg ds =>
        match nH cs,nH ds with
        | some as,some bs =>
          (u4 P t as.length∧bs.length=as.length∧P.eqGuardType P.depth t=false) ∧
          match op with
          | .eql=>K (σ.put dst (.lit (.bool (decide (as=bs)))))
          | .neq=>K (σ.put dst (.lit (.bool (!decide (as=bs)))))
          | _=>False
        | _,_=>False
      | _,_=>False):=by unfold ba cp;rfl
theorem KU (op:UnOp) (t:TypeId) (x:Operand):ba P ⟨dst,.unOp op t x,tt,p,af,g⟩ σ K =
    (match op,ev σ x with
      | .not,.lit (.bool b)=>K (σ.put dst (.lit (.bool !b)))
      | .neg,.lit (.int k a)=>(k.min≤-a∧-a≤k.max)∧K (σ.put dst (.lit (.int k (-a))))
      | _,_=>False):=by unfold ba cp;rfl
theorem KV (fn:Fn) (first captured:Array Operand):ba P ⟨dst,.makeFunc fn first captured,tt,p,af,g⟩ σ K =
    (match fn with
      | .func f=>first.size=0∧K (σ.put dst (.fn f (captured.toList.map (ev σ))))
      | _=>False):=by unfold ba cp;rfl
theorem KW (t:TypeId) (l c:Operand):ba P ⟨dst,.makeSlice t l c,tt,p,af,g⟩ σ K =
    (match (ty P t).kind,(ty P (ty P t).elem).zero,ev σ l,ev σ c with
      | 1,some z,.lit (.int k n),.lit (.int k' n') =>
        ((ty P (ty P t).elem).kind≠99∧0<(ty P (ty P t).elem).size∧z.length=(ty P (ty P t).elem).size∧n'=n∧0≤n∧n≤1099511627776∧(ty P (ty P t).elem).bytes≤128∧k=k) ∧
          K (({ σ with aa:=σ.aa++[.arr (ty P (ty P t).elem).size (bY n.toNat (z.map .lit))] }:St).put dst (.ref σ.aa.length (ty P (ty P t).elem).size 0 n.toNat))∧k'=k'
      | _,_,_,_=>False):=by unfold ba cp;rfl
theorem KX (t:TypeId) (x:Operand) (lo hi mx:Option Operand):ba P ⟨dst,.slice t x lo hi mx,tt,p,af,g⟩ σ K =
    ((ty P t).kind=1∧(ty P (ty P t).elem).kind≠99∧mx=none ∧
      match ev σ x with
      | .ref id sz off len =>
        match σ.aa[id]? with
        | some (.arr cO rows) =>
          cO=sz∧sz=(ty P (ty P t).elem).size ∧
          match lo.map (ev σ),hi.map (ev σ) with
          | none,none=>K (σ.put dst (.ref id sz off len))
          | some (.lit (.int _ l)),none=>(0≤l∧l≤len∧rows.length=rows.length)∧K (σ.put dst (.ref id sz (off+l.toNat) (len - l.toNat)))
          | none,some (.lit (.int _ h))=>(0≤h∧h≤len)∧K (σ.put dst (.ref id sz off h.toNat))
          | some (.lit (.int _ l)),some (.lit (.int _ h))=>(0≤l∧l≤h∧h≤len)∧K (σ.put dst (.ref id sz (off+l.toNat) (h.toNat - l.toNat)))
          | _,_=>False
        | _=>False
      | .tree sz rows =>
          (rows≠[]→sz=(ty P (ty P t).elem).size) ∧
          match lo.map (ev σ),hi.map (ev σ) with
          | none,none=>K (σ.put dst (.tree sz rows))
          | some (.lit (.int _ l)),none=>(0≤l∧l≤rows.length)∧K (σ.put dst (.tree sz (rows.drop l.toNat)))
          | none,some (.lit (.int _ h))=>(0≤h∧h≤rows.length)∧K (σ.put dst (.tree sz (rows.take h.toNat)))
          | some (.lit (.int _ l)),some (.lit (.int _ h))=>(0≤l∧l≤h∧h≤rows.length)∧K (σ.put dst (.tree sz ((rows.take h.toNat).drop l.toNat)))
          | _,_=>False
      | _=>False):=by unfold ba cp;rfl
theorem KY (s:TypeId) (x:Operand) (f:Nat):ba P ⟨dst,.field s x f,tt,p,af,g⟩ σ K =
    (match (ty P s).kind,(ty P s).aL[f]? with
      | 3,some (off,t,size) =>
        (ty P t).kind≠99∧size=(ty P t).size ∧
        match ev σ x with
        | .agg cs=>if (ty P t).isAgg then off+size≤cs.length∧K (σ.put dst (.agg ((cs.drop off).take size))) else
            match cs[off]? with
            | some v=>K (σ.put dst v)
            | none=>False
        | _=>False
      | _,_=>False):=by unfold ba cp;rfl
theorem KZ (t:TypeId) (r:Option Operand):ba P ⟨dst,.makeMap t r,tt,p,af,g⟩ σ K =
    ((r=none∧(ty P t).kind=8)∧K (({ σ with aa:=σ.aa++[.mp (x8 P t) []] }:St).put dst (.gk σ.aa.length))):=by unfold ba cp;rfl
theorem K3 (t:TypeId) (x i:Operand) (ok:Bool):ba P ⟨dst,.lookup t x i ok,tt,p,af,g⟩ σ K =
    (match keyOf (ev σ i),kZ σ (ev σ x),zeroV P (ty P t).elem with
      | some (ag,l),some (_,iy,L),some z=>(ke P t ag∧iy=ag∧l.length=jH ag∧(ty P t).kind=8∧ok=false)∧K (σ.put dst ((mV l L).getD (.lit z)))
      | _,_,_=>False):=by unfold ba cp;rfl
theorem K4 (t:TypeId) (m k x:Operand):ba P ⟨dst,.mapUpdate t m k x,tt,p,af,g⟩ σ K =
    (match keyOf (ev σ k),kZ σ (ev σ m) with
      | some (ag,l),some (id,iy,L)=>(ke P t ag∧iy=ag∧l.length=jH ag)∧K (({ σ with aa:=σ.aa.set id (.mp ag (fo l (ev σ x) L)) }:St).put dst .undef)
      | _,_=>False):=by unfold ba cp;rfl
theorem K5 (t:TypeId) (m k:Operand):ba P ⟨dst,.mapEntry t m k,tt,p,af,g⟩ σ K =
    (match keyOf (ev σ k),kZ σ (ev σ m),zeroV P (ty P t).elem with
      | some (ag,l),some (id,iy,L),some z=>(ke P t ag∧iy=ag∧l.length=jH ag∧(ty P t).kind=8) ∧
        K (({ σ with aa:=σ.aa.set id (.mp ag (fo l ((mV l L).getD (.lit z)) L)) }:St).put dst (.bG [(mV l L).getD (.lit z),.lit (.int .i64 (x9 l L:Nat))]))
      | _,_,_=>False):=by unfold ba cp;rfl
theorem K6 (t:TypeId) (m s x:Operand):ba P ⟨dst,.entryStore t m s x,tt,p,af,g⟩ σ K =
    (match ev σ s,kZ σ (ev σ m) with
      | .lit (.int .i64 n),some (id,ag,L)=>(0≤n∧n<L.length)∧K (({ σ with aa:=σ.aa.set id (.mp ag (oF n.toNat (ev σ x) L)) }:St).put dst .undef)
      | _,_=>False):=by unfold ba cp;rfl
theorem K7 (t:TypeId) (x i:Operand):ba P ⟨dst,.index t x i,tt,p,af,g⟩ σ K =
    (match ev σ x,ev σ i with
      | .lit (.string s),.lit (.int _ n)=>(P.underlying t=some .string∧0≤n∧n<s.size)∧K (σ.put dst (.lit (.int .u8 (FR s n.toNat))))
      | _,_=>False):=by unfold ba cp;rfl
theorem K8 (t:TypeId) (x:Operand):ba P ⟨dst,.makeInterface t x,tt,p,af,g⟩ σ K =
    (tN P t=false∧K (σ.put dst (.gJ t (ev σ x)))):=by unfold ba cp;rfl
theorem K9 (x:Operand) (xt asserted:TypeId) (ok:Bool):ba P ⟨dst,.typeAssert x xt asserted ok,tt,p,af,g⟩ σ K =
    (match ev σ x with
      | .gJ t v=>(tN P asserted=false∧t=asserted∧ok=false)∧K (σ.put dst v)
      | _=>False):=by unfold ba cp;rfl
theorem K' (x:Operand) (i:Nat):ba P ⟨dst,.extract x i,tt,p,af,g⟩ σ K =
    (match ev σ x with
      | .bG vs =>
        match vs[i]? with
        | some v=>K (σ.put dst v)
        | none=>False
      | _=>False):=by unfold ba cp;rfl
theorem La (args:Array Operand) (argTypes:Array TypeId):ba P ⟨dst,.call ⟨.builtin .len,args,argTypes⟩,tt,p,af,g⟩ σ K =
    (match args.toList,argTypes.toList with
      | [x],[t] =>
        match ev σ x with
        | .ref id sz _ len =>
          (ty P t).kind=1 ∧
          match σ.aa[id]? with
          | some (.arr cO _)=>cO=sz∧K (σ.put dst (.lit (.int .i64 len)))
          | _=>False
        | .tree _ rows=>(ty P t).kind=1∧K (σ.put dst (.lit (.int .i64 rows.length)))
        | .lit (.slice none 0 0)=>(ty P t).kind=1∧K (σ.put dst (.lit (.int .i64 0)))
        | .gk id =>
          (ty P t).kind=8 ∧
          match σ.aa[id]? with
          | some (.mp _ L)=>K (σ.put dst (.lit (.int .i64 L.length)))
          | _=>False
        | _=>False
      | _,_=>False):=by unfold ba cp;rfl
theorem Lb (args:Array Operand) (argTypes:Array TypeId):ba P ⟨dst,.call ⟨.builtin .append,args,argTypes⟩,tt,p,af,g⟩ σ K =
    (match args.toList,argTypes.toList with
      | [s,x],[t,t'] =>
        match (ty P t).kind,(ty P (ty P t).elem).zero,py σ (ty P (ty P t).elem).size (ev σ s),mW σ (ev σ x) with
        | 1,some z,some (pre,σ1),some (sz,src) =>
          (t'=t∧(ty P (ty P t).elem).kind≠99∧sz=(ty P (ty P t).elem).size∧0<sz∧z.length=sz∧pre.length+src.length≤549755813888∧(ty P (ty P t).elem).bytes≤128∧(src.all fun row=>row.all cf)=true) ∧
            K (({ σ1 with aa:=σ1.aa++[.arr sz (pre++src)] }:St).put dst (.ref σ1.aa.length sz 0 (pre.length+src.length)))
        | _,_,_,_=>False
      | _,_=>False):=by unfold ba cp;rfl
theorem Le (args:Array Operand) (argTypes:Array TypeId):ba P ⟨dst,.call ⟨.builtin .min,args,argTypes⟩,tt,p,af,g⟩ σ K =
    (match args.toList with
      | [x,y] =>
        match ev σ x,ev σ y with
        | .lit (.int k a),.lit (.int k' b)=>k=k'∧K (σ.put dst (.lit (.int k (min a b))))
        | _,_=>False
      | _=>False):=by unfold ba cp;rfl
theorem Lf (args:Array Operand) (argTypes:Array TypeId):ba P ⟨dst,.call ⟨.builtin .max,args,argTypes⟩,tt,p,af,g⟩ σ K =
    (match args.toList with
      | [x,y] =>
        match ev σ x,ev σ y with
        | .lit (.int k a),.lit (.int k' b)=>k=k'∧K (σ.put dst (.lit (.int k (max a b))))
        | _,_=>False
      | _=>False):=by unfold ba cp;rfl
theorem Lh (args:Array Operand) (argTypes:Array TypeId):ba P ⟨dst,.call ⟨.builtin .copy,args,argTypes⟩,tt,p,af,g⟩ σ K =
    (match args.toList,argTypes.toList with
      | [s,x],[t,_] =>
        match ev σ s,mW σ (ev σ x) with
        | .ref id sz off len,some (cO,src) =>
          match σ.aa[id]? with
          | some (.arr kf rows) =>
            ((ty P t).kind=1∧(ty P (ty P t).elem).kind≠99∧cO=sz∧kf=sz∧sz=(ty P (ty P t).elem).size∧0<sz∧(src.all fun row=>row.all cf)=true) ∧
              K (({ σ with aa:=σ.aa.set id (.arr sz (rows.take off++src.take (min src.length len)++rows.drop (off+min src.length len))) }:St).put dst (.lit (.int .i64 (min src.length len:Nat))))
          | _=>False
        | _,_=>False
      | _,_=>False):=by unfold ba cp;rfl
theorem Li (args:Array Operand) (argTypes:Array TypeId):ba P ⟨dst,.call ⟨.builtin .clear,args,argTypes⟩,tt,p,af,g⟩ σ K =
    (match args.toList,argTypes.toList with
      | [s],[t] =>
        match ev σ s,(ty P (ty P t).elem).zero with
        | .ref id sz off len,some z =>
          match σ.aa[id]? with
          | some (.arr cO rows) =>
            ((ty P t).kind=1∧(ty P (ty P t).elem).kind≠99∧cO=sz∧z.length=sz∧0<sz∧(z.all fun u=>u.oneCell')=true) ∧
              K (({ σ with aa:=σ.aa.set id (.arr sz (rows.take off++bY len (z.map AV.lit)++rows.drop (off+len))) }:St).put dst (.lit (.tuple #[])))
          | _=>False
        | _,_=>False
      | _,_=>False):=by unfold ba cp;rfl
theorem Lj (s d:TypeId) (x:Operand):ba P ⟨dst,.convert s d x,tt,p,af,g⟩ σ K =
    (match P.underlying d,ev σ x with
      | some (.int k),.lit (.int _ n)=>(P.underlying s).isSome=true∧K (σ.put dst (.lit (.int k (k.wrap n))))
      | _,_=>False):=by unfold ba cp;rfl
end Go.Am
namespace Go.Am
variable {P:Program} {N n0:Nat} {σ:St} {Q:Exit→St→Prop}
theorem cP (ak:List Nat) (snap:Bool) {v res:AV} {a8:List Ob} (cC:ak.Nodup) (ho:nE (br σ.aa.length ak) σ.aa ak a8) (hn:n0≤ak.length) (cV:∀ i,i<n0→ak.getD i 0=i)
    (h:aE σ (kept ak a8) (br σ.aa.length ak) snap res v):mT n0 σ v res a8:=by
  obtain ⟨h1,h2,h3⟩:=ho.spec
  exact⟨ak,snap,cC,h1,h2,h3,hn,cV,h⟩
theorem fJ {e:Nat→AV} {os:List Ob} {v res:AV} {a8:List Ob} (ho:os=a8) (hn:n0≤a8.length) (h:v=res):mT n0 ⟨e,os⟩ v res a8:=by
  subst ho;subst h
  let σ:St:=⟨e,os⟩
  show mT n0 σ v v σ.aa
  have hn:n0≤σ.aa.length:=hn
  refine⟨aN σ.aa.length,false,JA,by simp,fun j o hj=>.inr ?_,by simp,by simpa using hn,fun i hi=>?_,?_⟩
  · have bw:=(aQ.1 hj).1
    rw[uY,zR]
    simpa [aA,oB bw] using hj
  · have:i<σ.aa.length:=by omega
    simp[aA,oB this]
  · exact .eq (by rw[uY,uX])
end Go.Am
namespace Go.Am
variable {P:Program} {N n0:Nat} {σ:St} {Q:Exit→St→Prop}
theorem gK {ak:List Nat} {co:List Ob} {id:Nat} (h:id ∉ ak):¬ kept ak co id:=by
  rintro ⟨j,hj,he,_⟩
  apply h
  rw[← he,aA,bX hj]
  exact List.getElem_mem hj
def tO (ρ:Nat→Nat) (os:List Ob):List Nat→List Ob→Prop
  | [],[]=>True
  | i::ak,o::co=>os[i]?=some (bO ρ o)∧tO ρ os ak co
  | _,_=>False
theorem tO.spec {ρ:Nat→Nat} {os:List Ob}:∀ {ak:List Nat} {co:List Ob},tO ρ os ak co→co.length=ak.length∧∀ (j:Nat) o,co[j]?=some o→os[ak.getD j 0]?=some (bO ρ o)
  | [],[],_=>⟨rfl,by simp⟩
  | i::ak,o::co,h=>by
    obtain ⟨h1,h3⟩:=h
    obtain ⟨a,b⟩:=tO.spec h3
    refine⟨by simp[a],fun j o' hj=>?_⟩
    cases j with
    | zero=>simp at hj;subst hj;simpa using h1
    | succ j=>simpa using b j o' (by simpa using hj)
def dY (R:AV→AV→Prop):List AV→List AV→Prop
  | [],[]=>True
  | c::cs,d::ds=>R c d∧dY R cs ds
  | _,_=>False
theorem dY.spec {R:AV→AV→Prop}:∀ {cs ds:List AV},dY R cs ds→cs.length=ds.length∧∀ (j:Nat) c d,cs[j]?=some c→ds[j]?=some d→R c d
  | [],[],_=>⟨rfl,by simp⟩
  | c::cs,d::ds,h=>by
    obtain ⟨a,b⟩:=dY.spec h.2
    refine⟨by simp[a],fun j c' d' hc hd=>?_⟩
    cases j with
    | zero=>simp at hc hd;subst hc;subst hd;exact h.1
    | succ j=>exact b j c' d' (by simpa using hc) (by simpa using hd)
theorem aE.mX {kp:Nat→Prop} {ρ:Nat→Nat} {snap:Bool} {a b c d:AV} (h:aE σ kp ρ snap a c) (k:aE σ kp ρ snap b d):aE σ kp ρ snap (.bG [a,b]) (.bG [c,d]) :=
  .bG _ _ rfl (dY.spec (R:=aE σ kp ρ snap) (cs:=[a,b]) (ds:=[c,d]) ⟨h,k,trivial⟩).2
theorem iz (ak:List Nat) {f:FuncId} {args cZ:List AV} {bR:List Ob} {dst:Option Tmp} {K:St→Prop} {res:AV} {cG:List Ob} (h:an P f cZ bR res cG) (cC:ak.Nodup)
    (ho:tO (br σ.aa.length ak) σ.aa ak bR) (ha:dY (aE σ (·∈ak) (br σ.aa.length ak) false) cZ args)
    (hK:K (({ σ with aa:=dV σ.aa ak (cG.map (bO (br σ.aa.length ak))) }:St).put dst (a6 (br σ.aa.length ak) res))):pt P f args dst K σ:=by
  obtain ⟨h1,h2⟩:=ho.spec
  obtain ⟨h3,h4⟩:=ha.spec
  exact⟨ak,false,cZ,bR,res,cG,h,⟨cC,h1,h2,h3,h4,by simp⟩,hK⟩
theorem nI (ak:List Nat) {f:FuncId} {args cZ:List AV} {bR:List Ob} {dst:Option Tmp} {K:St→Prop} {res:AV} {cG:List Ob} (h:an P f cZ bR res cG) (cC:ak.Nodup)
    (ho:tO (br σ.aa.length ak) σ.aa ak bR) (ha:dY (aE σ (·∈ak) (br σ.aa.length ak) true) cZ args) (hf:flat res=true) (wC:∀ o∈cG,tP o)
    (hK:K (({ σ with aa:=dV σ.aa ak (cG.map (bO (br σ.aa.length ak))) }:St).put dst (a6 (br σ.aa.length ak) res))):pt P f args dst K σ:=by
  obtain ⟨h1,h2⟩:=ho.spec
  obtain ⟨h3,h4⟩:=ha.spec
  exact⟨ak,true,cZ,bR,res,cG,h,⟨cC,h1,h2,h3,h4,fun _=>⟨hf,wC⟩⟩,hK⟩
theorem Lk {ρ:Nat→Nat} (cs:List AV):bO ρ (.var cs)=.var (cs.map (a6 ρ)):=by simp only[bO]
theorem Ll {ρ:Nat→Nat}:bO ρ .gone=.gone:=by simp only[bO]
theorem Lm:aN 1=[0]:=by decide
theorem Ln:aN 2=[0,1]:=by decide
theorem Lo:aN 3=[0,1,2]:=by decide
theorem Lp (xs:List Int):(ints xs).take xs.length=ints xs:=by rw[fN (by simp[ints])]
theorem Lr (xs:List Bool):(aY xs).take xs.length=aY xs:=by rw[fN (by simp[aY])]
theorem Ls (xs:List (List Int)):(fE xs).take xs.length=fE xs:=by rw[fN (by simp[fE])]
theorem CA {y:Code} {Q0 Q1:Exit→St→Prop} {G:Prop} (S0:St) (hn:∀ s,W P N n0 y Q0 s→Q1 .normal s) (hm:W P N n0 y Q0 S0) (h:(∀ s,aB n0 s S0→Q1 .normal s)→G):G :=
  h fun s ht=>hn s (bJ ht hm)
end Go.Am
namespace Go.Am
variable {P:Program} {N n0:Nat} {σ:St} {Q:Exit→St→Prop}
def Lt (P:Program) (ops:Array Oper) (Q:Exit→Act→World→Prop) (js:List Nat):Exit→Act→World→Prop
  | .normal,a,w=>wpOps P ops Q js a w
  | e,a,w=>Q e a w
theorem Oper.W9 {o:Oper} {a:Act} {w:World} {K:Act→World→Prop} {Q Q':Exit→Act→World→Prop} (hq:∀ e a w,e≠.normal→Q e a w→Q' e a w) (hl:LetsOut Q→LetsOut Q')
    (hh:o.wp P a w K Q):o.wp P a w K Q':=by
  unfold Oper.wp at *
  generalize (execOp a.eval o).run P w=r at *
  cases r with
  | ok n w' =>
    cases n<;>simp only[Oper.upon] at hh⊢<;>
      first
        | exact hh
        | exact Calls.mono hh (fun e w'' he=>by
            cases e with
            | returned v=>exact he
            | panicked c=>exact hq _ _ _ (by simp) he
            | outgrown=>exact hl he)
  | halt x w'=>cases x<;>simp only[Oper.upon] at hh ⊢<;>first|exact hh|exact hq _ _ _ (by simp) hh
theorem wD {ops:Array Oper} {Q:Exit→Act→World→Prop} {js:List Nat}:∀ (is:List Nat) (a:Act) (w:World),wpOps P ops (Lt P ops Q js) is a w→wpOps P ops Q (is++js) a w
  | [],a,w,h=>h
  | i::is,a,w,h=>by
    rw[List.cons_append,wpOps_cons]
    rw[wpOps_cons] at h
    have hl:LetsOut (Lt P ops Q js)→LetsOut Q:=fun h=>h
    unfold wpOp at h ⊢
    cases ho:ops[i]? with
    | none=>simp only[ho] at h ⊢;exact wD is a w h
    | some o =>
      simp only[ho] at h ⊢
      by_cases hw:Region.wanted o (yielded ops a.tmps)=true
      · rw[if_pos hw] at h ⊢
        rcases h with h | ⟨h1,h2⟩
        · left
          exact Oper.W9 (fun e a w he hq=>by cases e<;>first|exact absurd rfl he|exact hq) hl (Oper.wp_mono (fun a w=>wD is a w) h)
        · exact .inr ⟨h1,hl h2⟩
      · rw[if_neg hw] at h ⊢
        exact wD is _ w h
theorem q8 {N:Nat} {os:List Ob} {γ0:Cx} {ops:Array Oper} (hd:∀ o∈ops.toList,∀ d,o.dst=some d→d<N) {K:St→Prop} {Q:Exit→Act→World→Prop}
    (hQ:∀ σ' a' w',K σ'→gI N os γ0 σ' a' w'→Q .normal a' w'):∀ (l:List Oper) (i:Nat) (σ:St) (a:Act) (w:World),(∀ k,k<l.length→ops[i+k]?=l[k]?)→opsL P ops l K σ→gI N os γ0 σ a w →
      wpOps P ops Q (mn i l.length) a w
  | [],i,σ,a,w,_,h,aJ=>by simpa [wpOps] using hQ _ _ _ h aJ
  | o::r,i,σ,a,w,hl,h,aJ=>by
    have hi:ops[i]?=some o:=by simpa using hl 0 (by simp)
    have hr:∀ k,k<r.length→ops[i+1+k]?=r[k]?:=fun k hk=>by
      have:=hl (k+1) (by simpa using hk)
      rw[show i+1+k=i+(k+1) by omega,this];simp
    have cX:o∈ops.toList:=gB (by simpa using hi)
    rw[dH,uJ,wpOps_cons]
    unfold wpOp
    simp only[hi]
    unfold opsL at h
    cases hg:o.guard with
    | none =>
      simp only[hg] at h
      have hw:Region.wanted o (yielded ops a.tmps)=true:=by simp[Region.wanted,hg]
      rw[if_pos hw]
      left
      exact wo h aJ (hd o cX) (fun σ' a' w' hK e7=>q8 hd hQ r (i+1) σ' a' w' hr hK e7)
    | some jw =>
      obtain ⟨j,want⟩:=jw
      simp only[hg] at h
      cases eA:(ops[j]?).bind (·.dst) with
      | none=>simp[eA] at h
      | some d =>
        simp only[eA] at h
        split at h
        · rename_i b he
          obtain ⟨iY,a9,γ,rfl,ha,hs,hf⟩:=aJ
          have jt:=hs.aw d
          rw[he,ha] at jt
          have hv:=jt.cM
          have hy:yielded ops a.tmps j=some b:=by
            unfold yielded
            rw[eA]
            have:a.tmps[d]?=some (.bool b):=by
              rw[eY] at hv
              cases hx:a.tmps[d]? with
              | none=>rw[hx] at hv;simp[Go.undef] at hv
              | some y=>rw[hx] at hv;simp at hv;rw[hv]
            simp[this]
          by_cases ig:b=want
          · have hw:Region.wanted o (yielded ops a.tmps)=true:=by simp[Region.wanted,hg,hy,ig]
            rw[if_pos hw]
            left
            exact wo (h.1 ig) ⟨iY,a9,γ,rfl,ha,hs,hf⟩ (hd o cX) (fun σ' a' w' hK e7=>q8 hd hQ r (i+1) σ' a' w' hr hK e7)
          · have hw:Region.wanted o (yielded ops a.tmps)=false:=by simp[Region.wanted,hg,hy,ig]
            rw[if_neg (by rw[hw];simp)]
            refine q8 hd hQ r (i+1) _ _ _ hr (h.2 ig) ⟨by rw[put_defers];exact iY,by rw[sy];exact a9,{ γ with tmps:=(a.put o.dst Go.undef).tmps },rfl,rfl,qa hs ha (fun d h=>by rw[a9];exact hd o cX d h) (.lit _),?_⟩
            rw[qb];exact hf.put _
        · rename_i vs he
          obtain ⟨iY,a9,γ,rfl,ha,hs,hf⟩:=aJ
          have jt:=hs.aw d
          rw[he,ha] at jt
          have hv:=jt.cM
          have hy:yielded ops a.tmps j=none:=by
            unfold yielded
            rw[eA]
            rw[eY] at hv
            cases hx:a.tmps[d]? with
            | none=>simp[hx]
            | some y=>rw[hx] at hv;simp at hv;subst hv;simp[hx]
          have hw:Region.wanted o (yielded ops a.tmps)=false:=by simp[Region.wanted,hg,hy]
          rw[if_neg (by rw[hw];simp)]
          refine q8 hd hQ r (i+1) _ _ _ hr h.2 ⟨by rw[put_defers];exact iY,by rw[sy];exact a9,{ γ with tmps:=(a.put o.dst Go.undef).tmps },rfl,rfl,qa hs ha (fun d h=>by rw[a9];exact hd o cX d h) (.lit _),?_⟩
          rw[qb];exact hf.put _
        · exact h.elim
theorem Xa {os:List Ob} {γ0:Cx} {ops:Array Oper} (hd:∀ o∈ops.toList,∀ d,o.dst=some d→d<N) {K K1:St→Prop} {Q:Exit→Act→World→Prop} (hn:os.length=n0)
    (hQ:∀ σ' a' w',K σ'→gI N os γ0 σ' a' w'→Q .normal a' w') (n:Nat) (hK:∀ s,K1 s→∃ s1,aB n0 s s1∧opsL P ops (ops.toList.drop n) K s1) (σ:St) (a:Act) (w:World)
    (h:opsL P ops (ops.toList.take n) K1 σ) (aJ:gI N os γ0 σ a w):wpOps P ops Q (aN ops.size) a w:=by
  have e:aN ops.size=mn 0 (ops.toList.take n).length++mn (ops.toList.take n).length (ops.toList.drop n).length:=by
    rw[uK]
    have:=List.range'_append (s:=0) (m:=(ops.toList.take n).length) (n:=(ops.toList.drop n).length) (step:=1)
    simp only[Nat.zero_add,Nat.one_mul] at this
    rw[this]
    congr 1
    rw[← List.length_append,List.take_append_drop];simp
  rw[e]
  refine wD _ a w ?_
  refine q8 hd (K:=K1) (fun σ' a' w' hk e7=>?_) (ops.toList.take n) 0 σ a w (fun k hk=>?_) h aJ
  · obtain ⟨s1,ht,ho⟩:=hK σ' hk
    obtain ⟨h1,h2,γ,rfl,h3,h4,h5⟩:=e7
    obtain ⟨aF,e1,e2,e3,e4⟩:=ht os γ0 γ hn h4 h5
    refine q8 hd hQ (ops.toList.drop n) _ s1 a' γ.w (fun k hk=>?_) ho ⟨h1,h2,aF,e1,e2.trans h3,e3,e4⟩
    rw[List.getElem?_drop]
    simp only[List.length_drop,si] at hk
    rw[gV,si,Nat.min_eq_left (by omega)]
    simp
  · simp only[gV,si] at hk
    rw[List.getElem?_take_of_lt (by omega)]
    simp
end Go.Am
namespace Go.Am
variable {σ:St}
def jI (R:AV→AV→Prop):List (List AV)→List (List AV)→Prop
  | [],[]=>True
  | c::cs,d::ds=>dY R c d∧jI R cs ds
  | _,_=>False
theorem jI.spec {R:AV→AV→Prop}:∀ {cs ds:List (List AV)},jI R cs ds→cs.length=ds.length∧∀ (r c:Nat) v,cellAt cs r c=some v→cellAt ds r c=some ((cellAt ds r c).getD .undef)∧R v ((cellAt ds r c).getD .undef)
  | [],[],_=>⟨rfl,by simp[cellAt]⟩
  | c::cs,d::ds,h=>by
    obtain ⟨a,b⟩:=jI.spec h.2
    refine⟨by simp[a],fun r j v hv=>?_⟩
    cases r with
    | zero =>
      simp only[cellAt,List.getElem?_cons_zero,Option.bind_some] at hv ⊢
      obtain ⟨e1,e2⟩:=h.1.spec
      have hj:j<d.length:=by rw[← e1];exact (aQ.1 hv).1
      rw[bX hj]
      exact⟨rfl,e2 j v _ hv (bX hj)⟩
    | succ r =>
      have:=b r j v (by simpa [cellAt] using hv)
      simpa [cellAt] using this
theorem cg.mk {kp:Nat→Prop} {id sz len:Nat} {rows fO:List (List AV)} (ho:σ.aa[id]?=some (.arr sz rows)) (hl:len=rows.length) (qc:¬ kp id) (hw:∀ row∈fO,row.length=sz) (h:jI (cg σ kp) fO rows):cg σ kp (.tree sz fO) (.ref id sz 0 len):=by
  obtain ⟨a,b⟩:=h.spec
  subst hl
  refine .ref id sz 0 rows.length rows fO (fun r c=>(cellAt rows r c).getD .undef) ho qc (by simp[a]) hw (fun r c v hv=>?_) (fun r c v hv=>?_)
  · simpa using (b r c v hv).1
  · exact (b r c v hv).2
end Go.Am

