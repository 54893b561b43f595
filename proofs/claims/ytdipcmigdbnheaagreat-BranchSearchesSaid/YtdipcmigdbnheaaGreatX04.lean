import Derived.Test.YtdipcmigdbnheaaGreatX03
set_option linter.unusedVariables false
set_option linter.unusedSimpArgs false
set_option linter.unnecessarySimpa false
set_option linter.unusedSectionVars false
set_option maxHeartbeats 64000000
set_option maxRecDepth 20000
open List renaming mem_of_getElem?→iy,mem_append→dh,map_congr_left→qC,getElem?_eq_some_iff→aY,range→bn,contains_iff_mem→pW,mem_cons→bW,not_mem_nil→lX,getD_eq_getElem?_getD→ay,getElem?_range→jT,nodup_range→DX,range'→lU,range_eq_range'→vU,map_set→qD,replicate→aW,mem_map→bV
open Array renaming getD_eq_getD_getElem?→eY,toList_append→zF,replicate→xK
open Bool renaming or_eq_true→jE,and_eq_true→a7
open Option renaming some→dw
namespace Go.Am
variable {P:Program}
def Hs (P:Program) (g:FuncId) (args:List AV) (dst:Option Tmp) (K:St→Prop) (σ:St):Prop :=
  ∃ res,ao P g args [] res []∧jl args=true∧gy res=true∧K (σ.put dst res)
def sh (P:Program) (t:TypeId) (dst:Option Tmp) (K:St→Prop) (σ:St):AV→Prop
  | .dz cells=>(ty P t).kind≠99∧l6 (ty P t) cells 0 fun v=>K (σ.put dst v)
  | _=>False
def lB (q:Bool) (P:Program) (o:Oper) (σ:St) (K:St→Prop):Prop :=
  match q with
  | false=>bb P o σ K
  | true =>
    match o.op with
    | .call { callee:=.value f,args,.. } =>
      match ev σ f with
      | .fn g bJ=>Hs P g (args.toList.map (ev σ)++bJ) o.dst K σ
      | _=>False
    | .load t a=>sh P t o.dst K σ (ev σ a)
    | _=>False
theorem Zw {o:Oper} {σ:St} {K:St→Prop} {t:TypeId} {a:Operand} (cO:o.op=.load t a) (h:sh P t o.dst K σ (ev σ a)):bb P o σ K:=by
  unfold bb
  simp only[cO]
  unfold cg
  simp only[cO]
  unfold sh at h
  split at h
  · rename_i cells he
    simp only[he]
    exact h
  · exact h.elim
theorem Hw {t:TypeId} {dst:Option Tmp} {K:St→Prop} {σ:St} {v:AV} (h:sh P t dst K σ v) :∃x,K (σ.put dst x)∧∀ (σ2:St) (K2:St→Prop),K2 (σ2.put dst x)→sh P t dst K2 σ2 v:=by
  unfold sh at h
  split at h
  · rename_i cells
    obtain ⟨h1,h2⟩:=h
    unfold l6 at h2
    split at h2
    · rename_i ha
      refine⟨_,h2.2,fun σ2 K2 hK=>?_⟩
      unfold sh l6
      simp only
      rw[if_pos ha]
      exact⟨h1,h2.1,hK⟩
    · rename_i ha
      split at h2
      · rename_i x hx
        refine⟨x,h2,fun σ2 K2 hK=>?_⟩
        unfold sh l6
        simp only
        rw[if_neg ha,hx]
        exact⟨h1,hK⟩
      · exact h2.elim
  · exact h.elim
def oA (q:Bool) (P:Program) (o:Oper) (K:St→Prop) (b want:Bool) (σ:St):Prop:=(b=want→lB q P o σ K)∧(b≠want→K (σ.put o.dst (.lit (.tuple #[]))))
def dS (P:Program) (ops:Array Oper) (q:Bool) (o:Oper) (K:St→Prop) (σ:St):Prop :=
  match o.guard with
  | none=>lB q P o σ K
  | some (j,want) =>
    match (ops[j]?).bind (·.dst) with
    | none=>False
    | some d =>
      match σ.env d with
      | .lit (.bool b)=>oA q P o K b want σ
      | .lit (.tuple vs)=>vs = #[]∧K (σ.put o.dst (.lit (.tuple #[])))
      | _=>False
theorem Nz {q:Bool} {o:Oper} {σ:St} {K:St→Prop} (h:lB q P o σ K):bb P o σ K:=by
  cases q with
  | false=>exact h
  | true =>
    unfold lB at h
    simp only at h
    unfold bb
    split at h
    · rename_i f args fD cO
      simp only[cO]
      split at h
      · rename_i g bJ he
        simp only[he]
        obtain ⟨res,h1,h2,h3,h4⟩:=h
        exact bY h1 h2 h3 h4
      · exact h.elim
    · rename_i t a cO
      have:=Zw cO h
      unfold bb at this
      simpa only[cO] using this
    · exact h.elim
theorem NA {N:Nat} {os:List Ob} {γ0:Cx} {ops:Array Oper} (hd:∀ o∈ops.toList,∀ d,o.dst=some d→d<N) {q:Bool} {i:Nat} {o:Oper} (hi:ops[i]?=some o) {σ:St} {K:St→Prop}
    (h:dS P ops q o K σ) {a:Act} {w:World} (aC:gF N os γ0 σ a w) {Q:Exit→Act→World→Prop} {next:Act→World→Prop} (hn:∀ σ' a' w',K σ'→gF N os γ0 σ' a' w'→next a' w'):wpOp P ops Q i next a w:=by
  have cd:o∈ops.toList:=iy (by simpa using hi)
  unfold wpOp
  simp only[hi]
  unfold dS at h
  cases hg:o.guard with
  | none =>
    simp only[hg] at h
    have hw:Region.wanted o (yielded ops a.tmps)=true:=by simp[Region.wanted,hg]
    rw[if_pos hw]
    left
    exact xX (Nz h) aC (hd o cd) hn
  | some jw =>
    obtain ⟨j,want⟩:=jw
    simp only[hg] at h
    cases eu:(ops[j]?).bind (·.dst) with
    | none=>simp[eu] at h
    | some d =>
      simp only[eu] at h
      split at h
      · rename_i b he
        obtain ⟨iB,a5,γ,rfl,ha,hs,hf⟩:=aC
        have jW:=hs.aw d
        rw[he,ha] at jW
        have hv:=jW.cH
        have hy:yielded ops a.tmps j=some b:=by
          unfold yielded
          rw[eu]
          have:a.tmps[d]?=some (.bool b):=by
            rw[eY] at hv
            cases hx:a.tmps[d]? with
            | none=>rw[hx] at hv;simp[Go.undef] at hv
            | some y=>rw[hx] at hv;simp at hv;rw[hv]
          simp[this]
        by_cases ij:b=want
        · have hw:Region.wanted o (yielded ops a.tmps)=true:=by simp[Region.wanted,hg,hy,ij]
          rw[if_pos hw]
          left
          exact xX (Nz (h.1 ij)) ⟨iB,a5,γ,rfl,ha,hs,hf⟩ (hd o cd) hn
        · have hw:Region.wanted o (yielded ops a.tmps)=false:=by simp[Region.wanted,hg,hy,ij]
          rw[if_neg (by rw[hw];simp)]
          refine hn _ _ _ (h.2 ij) ⟨by rw[put_defers];exact iB,by rw[tC];exact a5,{ γ with tmps:=(a.put o.dst Go.undef).tmps },rfl,rfl,qM hs ha (fun d h=>by rw[a5];exact hd o cd d h) (.lit _),?_⟩
          rw[qN];exact hf.put _
      · rename_i vs he
        obtain ⟨iB,a5,γ,rfl,ha,hs,hf⟩:=aC
        have jW:=hs.aw d
        rw[he,ha] at jW
        have hv:=jW.cH
        have hy:yielded ops a.tmps j=none:=by
          unfold yielded
          rw[eu]
          rw[eY] at hv
          cases hx:a.tmps[d]? with
          | none=>simp[hx]
          | some y=>rw[hx] at hv;simp at hv;subst hv;simp[hx]
        have hw:Region.wanted o (yielded ops a.tmps)=false:=by simp[Region.wanted,hg,hy]
        rw[if_neg (by rw[hw];simp)]
        refine hn _ _ _ h.2 ⟨by rw[put_defers];exact iB,by rw[tC];exact a5,{ γ with tmps:=(a.put o.dst Go.undef).tmps },rfl,rfl,qM hs ha (fun d h=>by rw[a5];exact hd o cd d h) (.lit _),?_⟩
        rw[qN];exact hf.put _
      · exact h.elim
theorem El (c:Nat) (a:List Ob):ku c a a:=by
  unfold ku
  split
  · rfl
  · split
    · intro id _;rfl
    · split
      · exact⟨rfl,fun id o o' h h'=>by rw[h] at h';simp at h';subst h';exact x7 o⟩
      · trivial
theorem cw.aa {σ σ2:St} (h:σ2.aa=σ.aa) {kp:Nat→Prop} {c d:AV} (ha:cw σ kp c d):cw σ2 kp c d:=by
  induction ha with
  | lit x=>exact .lit x
  | tree s r=>exact .tree s r
  | nil sz=>exact .nil sz
  | ref id sz off len rows gk g cj qO hl0 wi tE tF ih=>exact .ref id sz off len rows gk g (by rw[h];exact cj) qO hl0 wi tE ih
theorem aO.aa {σ σ2:St} (h:σ2.aa=σ.aa) {kp:Nat→Prop} {ρ:Nat→Nat} {snap:Bool} {c d:AV} (ha:aO σ kp ρ snap c d):aO σ2 kp ρ snap c d:=by
  induction ha with
  | same v=>exact .same v
  | snap c d hs hf=>exact .snap c d hs (hf.aa h)
  | agg cs ds hl _ ih=>exact .agg cs ds hl ih
  | bM cs ds hl _ ih=>exact .bM cs ds hl ih
def fM (q:Bool) (o:Oper):Nat:=if q then 0 else cls o.op
theorem uT {ops:Array Oper} {o:Oper} {σ:St} {e2:Nat→AV} {os:List Ob} (h:∀ t∈o.looksAt ops,e2 t=σ.env t):∀ x∈o.op.operands.toList,ev ⟨e2,os⟩ x=ev σ x:=by
  intro x hx
  cases x with
  | tmp t =>
    show e2 t=σ.env t
    refine h t ?_
    unfold Oper.looksAt
    rw[dh]
    left
    rw[List.mem_filterMap]
    exact⟨_,hx,rfl⟩
  | const v=>rfl
  | func f=>rfl
  | global g=>rfl
theorem Zx {σ:St} {v:AV} {K:FuncId→AV→Prop} {r:Option (FuncId × Option TypeId)} (h:ov P σ v K r) :
    ∃ g x,K g x∧∀ (e2:Nat→AV) (K2:FuncId→AV→Prop),K2 g x→ov P ⟨e2,σ.aa⟩ v K2 r:=by
  match r,h with
  | none,h=>exact h.elim
  | some (g,none),h=>exact⟨g,v,h,fun _ _ h=>h⟩
  | some (g,some e),h =>
    unfold ov at h
    obtain ⟨hk,h⟩:=h
    cases v with
    | ptr id rr c =>
      simp only at h
      cases a6:rowOf σ id rr with
      | none=>simp[a6] at h
      | some row =>
        simp only[a6] at h
        obtain ⟨x,h1,h2⟩:=NC h
        refine⟨g,x,h1,fun e2 K2 hK=>?_⟩
        unfold ov
        have:rowOf ⟨e2,σ.aa⟩ id rr=some row:=a6
        simp only[this]
        exact⟨hk,h2 _ hK⟩
    | _=>exact h.elim
theorem Zy {o:Oper} {σ:St} {K:St→Prop} (hW:bb P o σ K) :
    ∃ v os,ku (cls o.op) σ.aa os∧K ((⟨σ.env,os⟩:St).put o.dst v)∧∀ (e2:Nat→AV) (K2:St→Prop),(∀ x∈o.op.operands.toList,ev ⟨e2,σ.aa⟩ x=ev σ x)→K2 ((⟨e2,os⟩:St).put o.dst v)→bb P o ⟨e2,σ.aa⟩ K2:=by
  unfold bb at hW ⊢
  split at hW
  · rename_i f args fD cO
    simp only[cO]
    split at hW
    · rename_i g bJ he
      obtain ⟨an,snap,cU,bN,res,cA,h1,⟨h2,h3,h4,h5,h6,h7⟩,h8⟩:=hW
      refine⟨_,_,(by simp[ku,cls]),h8,fun e2 K2 hx hK=>?_⟩
      have e1:ev ⟨e2,σ.aa⟩ f=.fn g bJ:=by rw[← he];exact hx f (by simp[Op.operands,Call.operands])
      have e3:args.toList.map (ev ⟨e2,σ.aa⟩)=args.toList.map (ev σ):=qC fun y hy=>hx y (by simp only[Op.operands,Call.operands,zF,dh];exact .inr hy)
      simp only[e1,e3]
      exact⟨an,snap,cU,bN,res,cA,h1,⟨h2,h3,h4,h5,fun j c d hc hd=>aO.aa (σ:=σ) (σ2:=⟨e2,σ.aa⟩) rfl (h6 j c d hc hd),h7⟩,hK⟩
    · exact hW.elim
  · rename_i r m args fD cO
    simp only[cO]
    split at hW
    · rename_i t v he
      obtain ⟨g,x,⟨an,snap,cU,bN,res,cA,h1,⟨h2,h3,h4,h5,h6,h7⟩,h8⟩,Zz⟩:=Zx hW
      refine⟨_,_,(by simp[ku,cls]),h8,fun e2 K2 hx hK=>?_⟩
      have e1:ev ⟨e2,σ.aa⟩ r=.er t v:=by rw[← he];exact hx r (by simp[Op.operands,Call.operands])
      have e3:args.toList.map (ev ⟨e2,σ.aa⟩)=args.toList.map (ev σ):=qC fun y hy=>hx y (by simp only[Op.operands,Call.operands,zF,dh];exact .inr hy)
      simp only[e1,e3]
      exact Zz e2 _ ⟨an,snap,cU,bN,res,cA,h1,⟨h2,h3,h4,h5,fun j c d hc hd=>aO.aa (σ:=σ) (σ2:=⟨e2,σ.aa⟩) rfl (h6 j c d hc hd),h7⟩,hK⟩
    · exact hW.elim
  · rename_i b8
    obtain ⟨v,os,h1,h2,h3⟩:=ZA hW
    refine⟨v,os,h1,h2,fun e2 K2 hx hK=>?_⟩
    have:=h3 e2 K2 hx hK
    exact this
theorem ZB {o:Oper} {σ:St} {K:St→Prop} (hc:cls o.op≤2) (hW:bb P o σ K) :
    ∃ v,K (σ.put o.dst v)∧∀ (σ2:St) (K2:St→Prop),(∀ x∈o.op.operands.toList,ev σ2 x=ev σ x)→(∀ (id:Nat),iR (cls o.op) σ.aa[id]? σ2.aa[id]?)→K2 (σ2.put o.dst v)→bb P o σ2 K2:=by
  unfold bb at hW ⊢
  split at hW
  · rename_i f args fD cO
    rw[cO] at hc
    simp[cls] at hc
  · rename_i r m args fD cO
    rw[cO] at hc
    simp[cls] at hc
  · rename_i b8
    obtain ⟨v,h2,h3⟩:=ND hc hW
    refine⟨v,h2,fun σ2 K2 hx ho hK=>?_⟩
    exact h3 σ2 K2 hx (fun x _ id _=>ho id) hK
theorem NF {q:Bool} {o:Oper} {σ:St} {K:St→Prop} (hW:lB q P o σ K) :
    ∃ v os,ku (fM q o) σ.aa os∧K ((⟨σ.env,os⟩:St).put o.dst v)∧∀ (e2:Nat→AV) (K2:St→Prop),(∀ x∈o.op.operands.toList,ev ⟨e2,σ.aa⟩ x=ev σ x)→K2 ((⟨e2,os⟩:St).put o.dst v)→lB q P o ⟨e2,σ.aa⟩ K2:=by
  cases q with
  | false=>exact Zy hW
  | true =>
    unfold lB at hW ⊢
    simp only at hW ⊢
    split at hW
    · rename_i f args fD cO
      simp only[cO]
      split at hW
      · rename_i g bJ he
        obtain ⟨res,h1,h2,h3,h4⟩:=hW
        refine⟨res,σ.aa,El _ _,h4,fun e2 K2 hx hK=>?_⟩
        have e1:ev ⟨e2,σ.aa⟩ f=.fn g bJ:=by rw[← he];exact hx f (by simp[Op.operands,Call.operands])
        have e3:args.toList.map (ev ⟨e2,σ.aa⟩)=args.toList.map (ev σ):=qC fun y hy=>hx y (by simp only[Op.operands,Call.operands,zF,dh];exact .inr hy)
        simp only[e1,e3]
        exact⟨res,h1,h2,h3,hK⟩
      · exact hW.elim
    · rename_i t a cO
      obtain ⟨x,h1,h2⟩:=Hw hW
      refine⟨x,σ.aa,El _ _,h1,fun e2 K2 hx hK=>?_⟩
      rw[hx a (by simp[cO,Op.operands])]
      exact h2 _ K2 hK
    · exact hW.elim
theorem NG {q:Bool} {o:Oper} {σ:St} {K:St→Prop} (hc:fM q o≤2) (hW:lB q P o σ K) :
    ∃ v,K (σ.put o.dst v)∧∀ (σ2:St) (K2:St→Prop),(∀ x∈o.op.operands.toList,ev σ2 x=ev σ x)→(∀ (id:Nat),iR (fM q o) σ.aa[id]? σ2.aa[id]?)→K2 (σ2.put o.dst v)→lB q P o σ2 K2:=by
  cases q with
  | false=>exact ZB hc hW
  | true =>
    unfold lB at hW ⊢
    simp only at hW ⊢
    split at hW
    · rename_i f args fD cO
      simp only[cO]
      split at hW
      · rename_i g bJ he
        obtain ⟨res,h1,h2,h3,h4⟩:=hW
        refine⟨res,h4,fun σ2 K2 hx _ hK=>?_⟩
        have e1:ev σ2 f=.fn g bJ:=by rw[← he];exact hx f (by simp[Op.operands,Call.operands])
        have e3:args.toList.map (ev σ2)=args.toList.map (ev σ):=qC fun y hy=>hx y (by simp only[Op.operands,Call.operands,zF,dh];exact .inr hy)
        simp only[e1,e3]
        exact⟨res,h1,h2,h3,hK⟩
      · exact hW.elim
    · rename_i t a cO
      obtain ⟨x,h1,h2⟩:=Hw hW
      refine⟨x,h1,fun σ2 K2 hx _ hK=>?_⟩
      rw[hx a (by simp[cO,Op.operands])]
      exact h2 _ K2 hK
    · exact hW.elim
theorem uU {ops:Array Oper} {o:Oper} {j d:Nat} {want:Bool} (hg:o.guard=some (j,want)) (hd:(ops[j]?).bind (·.dst)=some d):d∈o.looksAt ops:=by
  unfold Oper.looksAt
  rw[dh]
  right
  simp[hg,hd]
theorem BI {ops:Array Oper} {q:Bool} {o:Oper} {σ:St} {K:St→Prop} (hW:dS P ops q o K σ) :
    ∃ v os,ku (fM q o) σ.aa os∧K ((⟨σ.env,os⟩:St).put o.dst v)∧∀ (e2:Nat→AV) (K2:St→Prop),(∀ t∈o.looksAt ops,e2 t=σ.env t)→K2 ((⟨e2,os⟩:St).put o.dst v)→dS P ops q o K2 ⟨e2,σ.aa⟩:=by
  unfold dS at hW ⊢
  cases hg:o.guard with
  | none =>
    simp only[hg] at hW
    obtain ⟨v,os,h1,h2,h3⟩:=NF hW
    exact⟨v,os,h1,h2,fun e2 K2 hl hK=>h3 e2 K2 (uT hl) hK⟩
  | some jw =>
    obtain ⟨j,want⟩:=jw
    simp only[hg] at hW
    cases eu:(ops[j]?).bind (·.dst) with
    | none=>simp[eu] at hW
    | some d =>
      simp only[eu] at hW
      split at hW
      · rename_i b he
        by_cases ij:b=want
        · obtain ⟨v,os,h1,h2,h3⟩:=NF (hW.1 ij)
          refine⟨v,os,h1,h2,fun e2 K2 hl hK=>?_⟩
          have:e2 d=.lit (.bool b):=by rw[hl d (uU hg eu)];exact he
          simp only[eu,this]
          exact⟨fun _=>h3 e2 K2 (uT hl) hK,fun hn=>absurd ij hn⟩
        · refine⟨.lit (.tuple #[]),σ.aa,El _ _,hW.2 ij,fun e2 K2 hl hK=>?_⟩
          have:e2 d=.lit (.bool b):=by rw[hl d (uU hg eu)];exact he
          simp only[eu,this]
          exact⟨fun hn=>absurd hn ij,fun _=>hK⟩
      · rename_i vs he
        refine⟨.lit (.tuple #[]),σ.aa,El _ _,hW.2,fun e2 K2 hl hK=>?_⟩
        have:e2 d=.lit (.tuple vs):=by rw[hl d (uU hg eu)];exact he
        simp only[eu,this]
        exact⟨hW.1,hK⟩
      · exact hW.elim
theorem NH {ops:Array Oper} {q:Bool} {o:Oper} {σ:St} {K:St→Prop} (hc:fM q o≤2) (hW:dS P ops q o K σ) :
    ∃ v,K (σ.put o.dst v)∧∀ (σ2:St) (K2:St→Prop),(∀ t∈o.looksAt ops,σ2.env t=σ.env t)→(∀ (id:Nat),iR (fM q o) σ.aa[id]? σ2.aa[id]?)→K2 (σ2.put o.dst v)→dS P ops q o K2 σ2:=by
  unfold dS at hW ⊢
  cases hg:o.guard with
  | none =>
    simp only[hg] at hW
    obtain ⟨v,h2,h3⟩:=NG hc hW
    exact⟨v,h2,fun σ2 K2 hl ho hK=>h3 σ2 K2 (uT (e2:=σ2.env) (os:=σ2.aa) hl) ho hK⟩
  | some jw =>
    obtain ⟨j,want⟩:=jw
    simp only[hg] at hW
    cases eu:(ops[j]?).bind (·.dst) with
    | none=>simp[eu] at hW
    | some d =>
      simp only[eu] at hW
      split at hW
      · rename_i b he
        by_cases ij:b=want
        · obtain ⟨v,h2,h3⟩:=NG hc (hW.1 ij)
          refine⟨v,h2,fun σ2 K2 hl ho hK=>?_⟩
          have:σ2.env d=.lit (.bool b):=by rw[hl d (uU hg eu)];exact he
          simp only[eu,this]
          exact⟨fun _=>h3 σ2 K2 (uT (e2:=σ2.env) (os:=σ2.aa) hl) ho hK,fun hn=>absurd ij hn⟩
        · refine⟨.lit (.tuple #[]),hW.2 ij,fun σ2 K2 hl ho hK=>?_⟩
          have:σ2.env d=.lit (.bool b):=by rw[hl d (uU hg eu)];exact he
          simp only[eu,this]
          exact⟨fun hn=>absurd hn ij,fun _=>hK⟩
      · rename_i vs he
        refine⟨.lit (.tuple #[]),hW.2,fun σ2 K2 hl ho hK=>?_⟩
        have:σ2.env d=.lit (.tuple vs):=by rw[hl d (uU hg eu)];exact he
        simp only[eu,this]
        exact⟨hW.1,hK⟩
      · exact hW.elim
theorem wj {σ:St} {dst:Option Tmp} {v:AV} {t:Nat} (h:∀ d,dst=some d→d≠t):(σ.put dst v).env t=σ.env t:=by
  cases dst with
  | none=>rfl
  | some d =>
    have:=h d rfl
    simp[St.put,jG,Ne.symm this]
theorem Em {σ:St} {x y:Option Tmp} {v u:AV} (h:∀ d,x=some d→y≠some d):(σ.put x v).put y u=(σ.put y u).put x v:=by
  cases x with
  | none=>rfl
  | some d =>
    cases y with
    | none=>rfl
    | some d' =>
      have b8:d'≠d:=fun e=>h d rfl (by rw[e])
      simp only[St.put]
      congr 1
      funext k
      simp only[jG]
      split<;>split<;>simp_all
theorem En {σ:St} {x:Option Tmp} {v:AV}:(σ.put x v).aa=σ.aa:=by cases x<;>rfl
theorem NI {σ:St} {x:Option Tmp} {v:AV}:σ.put x v=⟨(σ.put x v).env,σ.aa⟩:=by cases x<;>rfl
theorem Eo {σ:St} {os:List Ob} {x:Option Tmp} {v:AV}:(⟨(σ.put x v).env,os⟩:St)=(⟨σ.env,os⟩:St).put x v:=by cases x<;>rfl
def zU (ci ck:Nat):Bool:=ci == 0 || ck == 0 || (ci == 1 && decide (ck≤4)) || (ci == 2 && decide (ck≤3))
theorem NJ {ci ck:Nat} (h:(ci == 0 || (ci == 1 && decide (ck≤4)) || (ci == 2 && decide (ck≤3)))=true) {a b:List Ob} (he:ku ck a b) (id:Nat):iR ci a[id]? b[id]?:=by
  simp only[jE,a7,beq_iff_eq,decide_eq_true_eq] at h
  rcases h with (rfl | ⟨rfl,hk⟩) | ⟨rfl,hk⟩
  · simp[iR]
  · unfold ku at he
    have:∀ o,a[id]?=some o→∃ o',b[id]?=some o'∧si o o':=by
      intro o ho
      have aT:=(aY.1 ho).1
      split at he
      · subst he;exact⟨o,ho,x7 o⟩
      · split at he
        · exact⟨o,by rw[he id aT];exact ho,x7 o⟩
        · split at he
          · have hb:id<b.length:=by omega
            exact⟨b[id],by simp[hb],he.2 id o _ ho (by simp[hb])⟩
          · omega
    simpa [iR] using this
  · unfold ku at he
    have:∀ o,a[id]?=some o→b[id]?=some o:=by
      intro o ho
      have aT:=(aY.1 ho).1
      split at he
      · subst he;exact ho
      · split at he
        · rw[he id aT];exact ho
        · omega
    simpa [iR] using this
theorem ZC {ops:Array Oper} {qi qk:Bool} {oi ok:Oper} (ha:oi.apart ops ok=true) (hi:fM qi oi≤2)
    (hc:(fM qi oi == 0 || (fM qi oi == 1 && decide (fM qk ok≤4)) || (fM qi oi == 2 && decide (fM qk ok≤3)))=true) {σ:St} {K:St→Prop}
    (h:dS P ops qi oi (dS P ops qk ok K) σ):dS P ops qk ok (dS P ops qi oi K) σ:=by
  obtain ⟨a1,a2,a3⟩:=Oper.apart_spec ha
  obtain ⟨v,h1,run⟩:=NH hi h
  obtain ⟨vk,os,x8,h2,BJ⟩:=BI h1
  rw[En] at x8 BJ
  refine BJ σ.env _ (fun t ht=>(wj fun d hd e=>a1 d hd (e ▸ ht)).symm) ?_
  refine run _ _ (fun t ht=>?_) (fun id=>?_) ?_
  · rw[wj fun d hd e=>a3 d hd (e ▸ ht)]
  · rw[En];exact NJ hc x8 id
  · rw[Eo] at h2
    rw[Em (fun d hd e=>a2 d e hd)]
    exact h2
theorem ZD {ops:Array Oper} {qi qk:Bool} {oi ok:Oper} (ha:oi.apart ops ok=true) (hk:fM qk ok=0) {σ:St} {K:St→Prop}
    (h:dS P ops qi oi (dS P ops qk ok K) σ):dS P ops qk ok (dS P ops qi oi K) σ:=by
  obtain ⟨a1,a2,a3⟩:=Oper.apart_spec ha
  obtain ⟨vi,os,x8,h1,run⟩:=BI h
  obtain ⟨vk,h2,Hx⟩:=NH (by omega) h1
  refine Hx σ _ (fun t ht=>(wj (σ:=⟨σ.env,os⟩) fun d hd e=>a1 d hd (e ▸ ht)).symm) (fun id=>by rw[hk];simp[iR]) ?_
  rw[NI]
  refine run _ _ (fun t ht=>wj fun d hd e=>a3 d hd (e ▸ ht)) ?_
  rw[Eo,Em (fun d hd e=>a2 d e hd)]
  exact h2
theorem ZE {ops:Array Oper} {qi qk:Bool} {oi ok:Oper} (ha:oi.apart ops ok=true) (hc:zU (fM qi oi) (fM qk ok)=true) {σ:St} {K:St→Prop}
    (h:dS P ops qi oi (dS P ops qk ok K) σ):dS P ops qk ok (dS P ops qi oi K) σ:=by
  by_cases hk:fM qk ok=0
  · exact ZD ha hk h
  · have kv:(fM qi oi == 0 || (fM qi oi == 1 && decide (fM qk ok≤4)) || (fM qi oi == 2 && decide (fM qk ok≤3)))=true:=by
      simp only[zU,jE,a7,beq_iff_eq,decide_eq_true_eq] at hc ⊢
      rcases hc with ((h | h) | h) | h
      · exact .inl (.inl h)
      · exact absurd h hk
      · exact .inl (.inr h)
      · exact .inr h
    refine ZC ha ?_ kv h
    simp only[jE,a7,beq_iff_eq,decide_eq_true_eq] at kv
    omega
end Go.Am
namespace Go.Am
variable {P:Program} {N n0:Nat} {σ:St}
def cL (P:Program) (ops:Array Oper) (qs:List Nat) (i:Nat) (K:St→Prop) (σ:St):Prop :=
  match ops[i]? with
  | none=>K σ
  | some o=>dS P ops (qs.contains i) o K σ
def tG (P:Program) (ops:Array Oper) (qs:List Nat) (K:St→Prop):Nat→Array Bool→St→Prop
  | 0,aR,σ=>Region.ready .any ops aR=[]∧K σ
  | n+1,aR,σ=>(Region.ready .any ops aR=[]→K σ)∧∀ i∈Region.ready .any ops aR,cL P ops qs i (tG P ops qs K n (aR.setIfInBounds i true)) σ
theorem BK {ops:Array Oper} {q:Bool} {o:Oper} {σ:St} {K K2:St→Prop} (hk:∀ s,K s→K2 s) (h:dS P ops q o K σ):dS P ops q o K2 σ:=by
  obtain ⟨v,os,_,h2,run⟩:=BI h
  exact run σ.env K2 (fun _ _=>rfl) (hk _ h2)
theorem ZF {ops:Array Oper} {q:Bool} {o:Oper} {σ:St} {K:St→Prop} (h:dS P ops q o K σ) :∃s,K s:=by
  obtain ⟨v,os,_,h2,run⟩:=BI h
  exact⟨_,h2⟩
theorem wm {ops:Array Oper} {qs:List Nat} {i:Nat} {σ:St} {K K2:St→Prop} (hk:∀ s,K s→K2 s) (h:cL P ops qs i K σ):cL P ops qs i K2 σ:=by
  unfold cL at h ⊢
  split at h
  · exact hk _ h
  · exact BK hk h
theorem ZG {ops:Array Oper} {qs:List Nat} {i:Nat} {σ:St} {K:St→Prop} (h:cL P ops qs i K σ) :∃s,K s:=by
  unfold cL at h
  split at h
  · exact⟨_,h⟩
  · exact ZF h
theorem Hy {os:List Ob} {γ0:Cx} {ops:Array Oper} {qs:List Nat} (hd:∀ o∈ops.toList,∀ d,o.dst=some d→d<N) {K:St→Prop} {Q:Exit→Act→World→Prop}
    (hQ:∀ σ' a' w',K σ'→gF N os γ0 σ' a' w'→Q .normal a' w'):∀ (n:Nat) (aR:Array Bool) (σ:St) (a:Act) (w:World),tG P ops qs K n aR σ→gF N os γ0 σ a w→wpAny P .any ops Q n aR a w
  | 0,aR,σ,a,w,h,aC=>⟨h.1,hQ _ _ _ h.2 aC⟩
  | n+1,aR,σ,a,w,h,aC=>by
    refine⟨fun hr=>hQ _ _ _ (h.1 hr) aC,fun i hi=>?_⟩
    have:=h.2 i hi
    unfold cL at this
    split at this
    · rename_i ax
      unfold wpOp
      simp only[ax]
      exact Hy hd hQ n _ _ _ _ this aC
    · rename_i o ax
      exact NA hd ax this aC fun σ' a' w' hK e7=>Hy hd hQ n _ _ _ _ hK e7
theorem ZH {id:Nat} {ops:Array Oper} {Q:Exit→St→Prop} (qs:List Nat) (hm:P.follows .mixedOrders=true) (hd:gz N ops=true)
    (h:tG P ops qs (Q .normal) ops.size (xK ops.size false) σ):W P N n0 (.region id ops true) Q σ:=by
  intro os γ0 a w _ aC
  refine wp_region_any hm ?_
  exact Hy (qP hd) (K:=Q .normal) (fun σ' a' w' hK e7=>⟨σ',hK,e7⟩) _ _ _ _ _ h aC.drawn
theorem ZI {ops:Array Oper} {qs:List Nat} {K:St→Prop} {i:Nat} {o:Oper} (hi:ops[i]?=some o) (D:List Nat) (ZJ:i∈D)
    (hD:∀ j∈D,j=i∨∃ oj,ops[j]?=some oj∧∃ e∈oj.after,Region.binds .any e=true∧e.on∈D):∀ (fuel:Nat) (aR:Array Bool) (σ:St),(∀ j∈D,aR.getD j true=false) →
      i∈Region.ready .any ops aR →
      (∀ j oj,ops[j]?=some oj→aR.getD j true=false→j ∉ D→o.apart ops oj=true∧zU (fM (qs.contains i) o) (fM (qs.contains j) oj)=true) →
      cL P ops qs i (tG P ops qs K fuel (aR.setIfInBounds i true)) σ→tG P ops qs K (fuel+1) aR σ:=by
  intro fuel
  induction fuel with
  | zero =>
    intro aR σ hu hr p9 h
    refine⟨fun e=>by rw[e] at hr;simp at hr,fun k hk=>?_⟩
    by_cases ik:k=i
    · subst ik;exact h
    · obtain ⟨s,hs⟩:=ZG h
      have:=ready_mono hk ik
      rw[hs.1] at this
      simp at this
  | succ m ih =>
    intro aR σ hu hr p9 h
    refine⟨fun e=>by rw[e] at hr;simp at hr,fun k hk=>?_⟩
    by_cases ik:k=i
    · subst ik;exact h
    · have BL:=mem_ready.1 hk
      obtain ⟨eM,ok,aC,dT⟩:=BL
      have uV:k ∉ D:=by
        intro uV
        rcases hD k uV with e | ⟨oj,kX,e,he,hb,x9⟩
        · exact ik e
        · rw[aC] at kX
          simp only[dw.injEq] at kX
          subst kX
          have h1:=dT e he hb
          have h2:=hu e.on x9
          rw[eY] at h1 h2
          cases hx:aR[e.on]? with
          | none=>rw[hx] at h1;simp at h1
          | some b=>rw[hx] at h1 h2;simp at h1 h2;rw[h1] at h2;simp at h2
      obtain ⟨ha,hc⟩:=p9 k ok aC eM uV
      have h1:cL P ops qs i (cL P ops qs k (tG P ops qs K m ((aR.setIfInBounds i true).setIfInBounds k true))) σ :=
        wm (fun s hs=>hs.2 k (ready_mono hk ik)) h
      have h2:cL P ops qs k (cL P ops qs i (tG P ops qs K m ((aR.setIfInBounds i true).setIfInBounds k true))) σ:=by
        unfold cL at h1 ⊢
        simp only[hi,aC] at h1 ⊢
        exact ZE ha hc h1
      refine wm (fun s hs=>?_) h2
      refine ih (aR.setIfInBounds k true) s (fun j hj=>?_) (ready_mono hr (Ne.symm ik)) (fun j oj kX hl qQ=>?_) ?_
      · have b8:k≠j:=fun e=>uV (by rw[e];exact hj)
        rw[getD_set_ne _ b8];exact hu j hj
      · refine p9 j oj kX ?_ qQ
        by_cases wo:k=j
        · subst wo;exact eM
        · rwa [getD_set_ne _ wo] at hl
      · rw[Array.setIfInBounds_comm _ _ (Ne.symm ik)] at hs
        exact hs
def Hz (ops:Array Oper) (i:Nat):List Nat :=
  (bn ops.size).foldl (fun D j=>if j == i || (match ops[j]? with | some oj=>oj.after.any (fun e=>Region.binds .any e && D.contains e.on) | none=>false) then D++[j] else D) []
def Ep (ops:Array Oper) (qs:List Nat) (aR:Array Bool) (i:Nat) (D:List Nat):Bool :=
  match ops[i]? with
  | none=>false
  | some o =>
    D.contains i && D.all (fun j=>j == i || match ops[j]? with | some oj=>oj.after.any (fun e=>Region.binds .any e && D.contains e.on) | none=>false) &&
    D.all (fun j=>!aR.getD j true) && o.after.all (fun e=>!Region.binds .any e || aR.getD e.on false) &&
    (bn ops.size).all fun j=>D.contains j || aR.getD j true || match ops[j]? with | some oj=>o.apart ops oj && zU (fM (qs.contains i) o) (fM (qs.contains j) oj) | none=>true
theorem ZK {ops:Array Oper} {qs:List Nat} {K:St→Prop} {i:Nat} {D:List Nat} {fuel:Nat} {aR:Array Bool} (h:Ep ops qs aR i D=true)
    (hs:cL P ops qs i (tG P ops qs K fuel (aR.setIfInBounds i true)) σ):tG P ops qs K (fuel+1) aR σ:=by
  unfold Ep at h
  cases hi:ops[i]? with
  | none=>simp[hi] at h
  | some o =>
    simp only[hi,a7,List.all_eq_true,pW,jE,beq_iff_eq,Bool.not_eq_true'] at h
    obtain ⟨⟨⟨⟨h1,h2⟩,h3⟩,h4⟩,h5⟩:=h
    refine ZI hi D h1 (fun j hj=>?_) fuel aR σ h3 ?_ ?_ hs
    · rcases h2 j hj with h | h
      · exact .inl h
      · right
        split at h
        · rename_i oj kX
          rw[Array.any_eq_true'] at h
          obtain ⟨e,he,hb⟩:=h
          simp only[a7,pW] at hb
          exact⟨oj,kX,e,he,hb.1,hb.2⟩
        · simp at h
    · rw[mem_ready]
      refine⟨h3 i h1,o,hi,fun e he hb=>?_⟩
      rw[Array.all_eq_true'] at h4
      have:=h4 e he
      simpa [hb] using this
    · intro j oj kX hl qQ
      have hj:j<ops.size:=(Array.getElem?_eq_some_iff.1 kX).1
      rcases h5 j (List.mem_range.2 hj) with (h | h) | h
      · exact absurd h qQ
      · rw[hl] at h;simp at h
      · simpa [kX] using h
inductive PT where
  | nil
  | take (i:Nat) (t:PT)
  | both (i:Nat) (t:PT) (j:Nat) (u:PT)
  | three (i:Nat) (t:PT) (j:Nat) (u:PT) (k:Nat) (v:PT)
def PT.ok (ops:Array Oper) (qs:List Nat):PT→Nat→Array Bool→Bool
  | .nil,n,aR=>n == 0 && (Region.ready .any ops aR).isEmpty
  | .take _ _,0,_=>false
  | .take i t,n+1,aR=>Ep ops qs aR i (Hz ops i) && t.ok ops qs n (aR.setIfInBounds i true)
  | .both _ _ _ _,0,_=>false
  | .both i t j u,n+1,aR=>(Region.ready .any ops aR == [i,j]) && t.ok ops qs n (aR.setIfInBounds i true) && u.ok ops qs n (aR.setIfInBounds j true)
  | .three _ _ _ _ _ _,0,_=>false
  | .three i t j u k v,n+1,aR=>(Region.ready .any ops aR == [i,j,k]) && t.ok ops qs n (aR.setIfInBounds i true) && u.ok ops qs n (aR.setIfInBounds j true) && v.ok ops qs n (aR.setIfInBounds k true)
def iS (P:Program) (ops:Array Oper) (qs:List Nat):PT→(St→Prop)→St→Prop
  | .nil,K,σ=>K σ
  | .take i t,K,σ=>cL P ops qs i (iS P ops qs t K) σ
  | .both i t j u,K,σ=>cL P ops qs i (iS P ops qs t K) σ∧cL P ops qs j (iS P ops qs u K) σ
  | .three i t j u k v,K,σ=>cL P ops qs i (iS P ops qs t K) σ∧cL P ops qs j (iS P ops qs u K) σ∧cL P ops qs k (iS P ops qs v K) σ
theorem ya {ops:Array Oper} {qs:List Nat} {K:St→Prop}:∀ (t:PT) (n:Nat) (aR:Array Bool) (σ:St),t.ok ops qs n aR=true→iS P ops qs t K σ→tG P ops qs K n aR σ
  | .nil,n,aR,σ,h,hp=>by
    simp only[PT.ok,a7,beq_iff_eq,List.isEmpty_iff] at h
    obtain ⟨rfl,h⟩:=h
    exact⟨h,hp⟩
  | .take _ _,0,_,_,h,_=>by simp[PT.ok] at h
  | .take i t,n+1,aR,σ,h,hp=>by
    simp only[PT.ok,a7] at h
    exact ZK h.1 (wm (fun s hs=>ya t n _ s h.2 hs) hp)
  | .both _ _ _ _,0,_,_,h,_=>by simp[PT.ok] at h
  | .both i t j u,n+1,aR,σ,h,hp=>by
    simp only[PT.ok,a7,beq_iff_eq] at h
    obtain ⟨⟨h1,h2⟩,h3⟩:=h
    refine⟨fun e=>by rw[h1] at e;simp at e,fun k hk=>?_⟩
    rw[h1] at hk
    simp only[bW,lX,or_false] at hk
    rcases hk with rfl | rfl
    · exact wm (fun s hs=>ya t n _ s h2 hs) hp.1
    · exact wm (fun s hs=>ya u n _ s h3 hs) hp.2
  | .three _ _ _ _ _ _,0,_,_,h,_=>by simp[PT.ok] at h
  | .three i t j u k v,n+1,aR,σ,h,hp=>by
    simp only[PT.ok,a7,beq_iff_eq] at h
    obtain ⟨⟨⟨h1,h2⟩,h3⟩,h4⟩:=h
    refine⟨fun e=>by rw[h1] at e;simp at e,fun x hk=>?_⟩
    rw[h1] at hk
    simp only[bW,lX,or_false] at hk
    rcases hk with rfl | rfl | rfl
    · exact wm (fun s hs=>ya t n _ s h2 hs) hp.1
    · exact wm (fun s hs=>ya u n _ s h3 hs) hp.2.1
    · exact wm (fun s hs=>ya v n _ s h4 hs) hp.2.2
theorem sj {id:Nat} {ops:Array Oper} {Q:Exit→St→Prop} (qs:List Nat) (t:PT) (hm:P.follows .mixedOrders=true) (hd:gz N ops=true) (ht:t.ok ops qs ops.size (xK ops.size false)=true)
    (h:iS P ops qs t (Q .normal) σ):W P N n0 (.region id ops true) Q σ :=
  ZH qs hm hd (ya t _ _ σ ht h)
theorem NK {id:Nat} {ops:Array Oper} {y:Code} {Q:Exit→St→Prop} (qs:List Nat) (t:PT) (hm:P.follows .mixedOrders=true) (hd:gz N ops=true) (ht:t.ok ops qs ops.size (xK ops.size false)=true)
    (h:∀ K:St→Prop,(∀ s,W P N n0 y Q s→K s)→iS P ops qs t K σ):W P N n0 (.seq (.region id ops true) y) Q σ :=
  HA (sj qs t hm hd ht (h _ (fun _ h=>h)))
theorem we {ops:Array Oper} {qs:List Nat} {K:St→Prop}:iS P ops qs .nil K σ=K σ:=rfl
theorem wc {ops:Array Oper} {qs:List Nat} {i:Nat} {t:PT} {K:St→Prop}:iS P ops qs (.take i t) K σ=cL P ops qs i (iS P ops qs t K) σ:=rfl
theorem NL {ops:Array Oper} {qs:List Nat} {i j k:Nat} {t u v:PT} {K:St→Prop}:iS P ops qs (.three i t j u k v) K σ=(cL P ops qs i (iS P ops qs t K) σ∧cL P ops qs j (iS P ops qs u K) σ∧cL P ops qs k (iS P ops qs v K) σ):=rfl
theorem zV {ops:Array Oper} {qs:List Nat} {i j:Nat} {t u:PT} {K:St→Prop}:iS P ops qs (.both i t j u) K σ=(cL P ops qs i (iS P ops qs t K) σ∧cL P ops qs j (iS P ops qs u K) σ):=rfl
theorem Nj {q:Bool} {o:Oper} {K:St→Prop}:oA q P o K true true σ=lB q P o σ K:=by simp[oA]
theorem Nn {q:Bool} {o:Oper} {K:St→Prop}:oA q P o K false false σ=lB q P o σ K:=by simp[oA]
theorem Nk {q:Bool} {o:Oper} {K:St→Prop}:oA q P o K true false σ=K (σ.put o.dst (.lit (.tuple #[]))):=by simp[oA]
theorem Nl {q:Bool} {o:Oper} {K:St→Prop}:oA q P o K false true σ=K (σ.put o.dst (.lit (.tuple #[]))):=by simp[oA]
theorem ZL {q:Bool} {o:Oper} {K:St→Prop} {b want:Bool} (h1:b=true→oA q P o K true want σ) (h2:b=false→oA q P o K false want σ):oA q P o K b want σ:=by
  cases b
  · exact h2 rfl
  · exact h1 rfl
def iT:List Nat→PT
  | []=>.nil
  | i::r=>.take i (iT r)
end Go.Am
namespace Go.Am
variable {P:Program} {N n0:Nat} {σ:St} {Q:Exit→St→Prop}
def aw:List (Nat × AV)→Nat→AV
  | []=>fun _=>.undef
  | p::l=>jG (aw l) p.1 p.2
theorem Ee (d:Nat) (v:AV) (l:List (Nat × AV)):aw ((d,v)::l)=jG (aw l) d v:=rfl
theorem Er (l:List (Nat × AV)) (k:Nat):aw l k=.undef∨∃ p∈l,p.1=k∧aw l k=p.2:=by
  induction l with
  | nil=>exact .inl rfl
  | cons p l ih =>
    by_cases h:k=p.1
    · right
      exact⟨p,by simp,h.symm,by simp[aw,jG,h]⟩
    · have e:aw (p::l) k=aw l k:=by simp[aw,jG,h]
      rw[e]
      rcases ih with h | ⟨q,hq,h1,h2⟩
      · exact .inl h
      · exact .inr ⟨q,by simp[hq],h1,h2⟩
def Has (e:Nat→AV):List (Nat × AV)→Prop
  | []=>True
  | p::l=>e p.1=p.2∧Has e l
theorem Has.mem {e:Nat→AV}:∀ {l:List (Nat × AV)},Has e l→∀ p∈l,e p.1=p.2
  | q::l,h,p,hp=>by
    rcases bW.1 hp with rfl | hp
    · exact h.1
    · exact Has.mem h.2 p hp
theorem aQ.aw (l:List (Nat × AV)) (os:List Ob) (ho:σ.aa=os) (h:Has σ.env l):aQ n0 σ ⟨aw l,os⟩:=by
  subst ho
  refine aQ.forget fun k=>?_
  rcases Er l k with h' | ⟨p,hp,rfl,h'⟩
  · exact .inl h'
  · right;rw[h',h.mem p hp]
def ox (ρ:Nat→Nat) (os:List Ob):List Nat→List Ob→Prop
  | [],[]=>True
  | i::an,o::co=>(i<os.length∧(o=.gone∨os[i]?=some (bD ρ o)))∧ox ρ os an co
  | _,_=>False
theorem ox.spec {ρ:Nat→Nat} {os:List Ob}:∀ {an:List Nat} {co:List Ob},ox ρ os an co→co.length=an.length∧(∀ (j:Nat) o,co[j]?=some o→o=.gone∨os[an.getD j 0]?=some (bD ρ o))∧∀ i∈an,i<os.length
  | [],[],_=>⟨rfl,by simp,by simp⟩
  | i::an,o::co,h=>by
    obtain ⟨⟨h1,h2⟩,h3⟩:=h
    obtain ⟨a,b,c⟩:=ox.spec h3
    refine⟨by simp[a],fun j o' hj=>?_,fun x hx=>?_⟩
    · cases j with
      | zero=>simp at hj;subst hj;simpa using h2
      | succ j=>simpa using b j o' (by simpa using hj)
    · rcases bW.1 hx with rfl | hx
      · exact h1
      · exact c x hx
def qR (R:AV→AV→Prop) (e:Nat→AV):List (Nat × AV)→Prop
  | []=>True
  | p::l=>R p.2 (e p.1)∧qR R e l
theorem qR.mem {R:AV→AV→Prop} {e:Nat→AV}:∀ {l:List (Nat × AV)},qR R e l→∀ p∈l,R p.2 (e p.1)
  | q::l,h,p,hp=>by
    rcases bW.1 hp with rfl | hp
    · exact h.1
    · exact qR.mem h.2 p hp
def kept (an:List Nat) (co:List Ob) (id:Nat):Prop:=∃ j,j<an.length∧an.getD j 0=id∧co[j]?≠some .gone
theorem aQ.an (an:List Nat) (snap:Bool) (l:List (Nat × AV)) (co:List Ob) (bC:an.Nodup) (ho:ox (a9 σ.aa.length an) σ.aa an co) (hn:n0≤an.length) (cT:∀ i,i<n0→an.getD i 0=i)
    (h:qR (aO σ (kept an co) (a9 σ.aa.length an) snap) σ.env l):aQ n0 σ ⟨Am.aw l,co⟩:=by
  obtain ⟨h1,h2,h3⟩:=ho.spec
  refine aQ.select an snap co _ bC h1 h2 h3 hn cT fun k=>?_
  rcases Er l k with h' | ⟨p,hp,rfl,h'⟩
  · exact .inl h'
  · right;rw[h'];exact h.mem p hp
theorem aO.pure {kp:Nat→Prop} {ρ:Nat→Nat} {snap:Bool} {v:AV} (h:gy v=true):aO σ kp ρ snap v v:=by
  have:=aO.same (σ:=σ) (kp:=kp) (ρ:=ρ) (snap:=snap) v
  rwa [yb _ v h] at this
theorem aO.eq {kp:Nat→Prop} {ρ:Nat→Nat} {snap:Bool} {v u:AV} (h:u=aX ρ v):aO σ kp ρ snap v u:=by
  subst h;exact .same v
theorem cw.flat {kp:Nat→Prop} {id sz len:Nat} {rows:List (List AV)} (ho:σ.aa[id]?=some (.arr sz rows)) (hw:∀ row∈rows,row.length=sz) (hl:len=rows.length) (qO:¬ kp id) (hf:∀ row∈rows,∀ v∈row,(∃ x,v=.lit x)∨∃ s r,v=.tree s r) :
    cw σ kp (.tree sz rows) (.ref id sz 0 len):=by
  refine .ref id sz 0 len rows rows (fun r c=>(cellAt rows r c).getD .undef) ho qO (by simp[hl]) hw (fun r c v hv=>?_) (fun r c v hv=>?_)
  · simp[hl,hv]
  · rw[hv,Option.getD_some]
    simp only[cellAt,Option.bind_eq_some_iff] at hv
    obtain ⟨row,h1,h2⟩:=hv
    rcases hf row (iy h1) v (iy h2) with ⟨x,rfl⟩ | ⟨s,r,rfl⟩
    · exact .lit x
    · exact .tree s r
theorem aO.nil {kp:Nat→Prop} {ρ:Nat→Nat} {sz:Nat}:aO σ kp ρ true (.tree sz []) (.lit (.slice none 0 0)):=.snap _ _ rfl (.nil sz)
theorem aO.cI {kp:Nat→Prop} {ρ:Nat→Nat} {id sz len:Nat} {rows:List (List AV)} (ho:σ.aa[id]?=some (.arr sz rows)) (hw:∀ row∈rows,row.length=sz) (hl:len=rows.length) (qO:¬ kp id) (hf:∀ row∈rows,∀ v∈row,(∃ x,v=.lit x)∨∃ s r,v=.tree s r) :
    aO σ kp ρ true (.tree sz rows) (.ref id sz 0 len):=.snap _ _ rfl (cw.flat ho hw hl qO hf)
def ZM {α:Type} (n0:Nat) (S:α→St) (I:α→Prop) (M:α→Nat) (x:α) (Q:Exit→St→Prop):Exit→St→Prop
  | .normal,s=>∃ y,I y∧M y<M x∧aQ n0 s (S y)
  | e,s=>Q e s
theorem ZN {α:Type} {c:Code} (S:α→St) (I:α→Prop) (M:α→Nat) (x0:α) (hI:I x0) (h0:aQ n0 σ (S x0)) (round:∀ x,I x→∀ Q':Exit→St→Prop,(∀ s y,I y→M y<M x→aQ n0 s (S y)→Q' .normal s)→(∀ e s,e≠.normal→Q e s→Q' e s)→W P N n0 c Q' (S x)):W P N n0 (.loop c) Q σ:=by
  refine dO h0 ?_
  intro os γ0 a w hn aC b k cs
  have key:∀ n x a w,M x=n→I x→gF N os γ0 (S x) a w →
      ∃ e a' w',(∃ σ',Q e σ'∧gF N os γ0 σ' a' w')∧Arrives P (lone (b.at a (.code c::.inLoop c::k)) cs w) b k cs e a' w':=by
    intro n
    induction n using Nat.strongRecOn with
    | _ n ih =>
      intro x a w hm hI aC
      have hr:W P N n0 c (ZM n0 S I M x Q) (S x):=round x hI _ (fun s y h1 h2 h3=>⟨y,h1,h2,h3⟩) (fun e s he h=>by cases e<;>first|exact absurd rfl he|exact h)
      obtain ⟨e,zW,BM,⟨σ',hq,e7⟩,wq⟩:=hr os γ0 a w hn aC b (.inLoop c::k) cs
      cases e with
      | normal =>
        obtain ⟨y,ZO,aT,ht⟩:=hq
        obtain ⟨h1,h2,γ,rfl,h3,h4,h5⟩:=e7
        obtain ⟨aI,e1,e2,e3,e4⟩:=ht os γ0 γ hn h4 h5
        obtain ⟨ZP,ZQ,ZR,ZS,ZT⟩:=ih (M y) (by omega) y zW γ.w rfl ZO ⟨h1,h2,aI,e1,e2.trans h3,e3,e4⟩
        exact⟨ZP,ZQ,ZR,ZS,.of_steps (Steps.trans wq (.one step_inLoop)) ZT⟩
      | exit id=>exact⟨_,zW,BM,⟨σ',hq,e7⟩,.pass (x:=.inLoop c) rfl (fun _ _=>.inl (by simp)) wq⟩
      | goto l=>exact⟨_,zW,BM,⟨σ',hq,e7⟩,.pass (x:=.inLoop c) rfl (fun _ _=>.inl (by simp)) wq⟩
      | ret=>exact⟨_,zW,BM,⟨σ',hq,e7⟩,.pass (x:=.inLoop c) rfl (fun _ _=>.inl (by simp)) wq⟩
      | panic ch=>exact⟨_,zW,BM,⟨σ',hq,e7⟩,.pass (x:=.inLoop c) rfl (fun _ _=>.inl (by simp)) wq⟩
      | outgrown=>exact⟨_,zW,BM,⟨σ',hq,e7⟩,.pass (x:=.inLoop c) rfl (fun _ _=>.inl (by simp)) wq⟩
  obtain ⟨e,a',w',hq,wq⟩:=key _ x0 a w rfl hI aC
  exact⟨e,a',w',hq,.of_steps (.one step_loop) wq⟩
theorem ZU {id:Nat} {c:Code} (h:∀ Q':Exit→St→Prop,(∀ s,Q .normal s→Q' .normal s)→(∀ s,Q .normal s→Q' (.exit id) s)→(∀ e s,e≠.normal→e≠.exit id→Q e s→Q' e s)→W P N n0 c Q' σ):W P N n0 (.block id c) Q σ :=
  ZV (h _ (fun s h=>h) (fun s h=>by simp only[Es,if_true];exact h) (fun e s h1 h2 h=>by
    cases e<;>first
      | exact absurd rfl h1
      | exact h
      | (rename_i yd;simp only[Es];rw[if_neg (fun e=>h2 (by rw[e]))];exact h)))
theorem BN {ρ:Nat→Nat} {sz:Nat} {rows:List (List AV)} (h:∀ row∈rows,jl row=true):bD ρ (.arr sz rows)=.arr sz rows:=by
  simp only[bD]
  congr 1
  have:∀ row∈rows,row.map (aX ρ)=row:=fun row hr=>by
    have:=zX ρ row (h row hr)
    rwa [uW] at this
  rw[qC this]
  simp
theorem ZW (n j:Nat):a9 n (bn n) j=j:=by
  unfold a9
  split
  · rename_i h
    have h':j<n:=by simpa using h
    simp[ay,jT h']
  · rename_i h
    simp at h ⊢
    omega
mutual
theorem wa:∀ (v:AV),aX (fun j=>j) v=v
  | .undef=>rfl
  | .lit _=>rfl
  | .tree ..=>rfl
  | .dz _=>rfl
  | .ref ..=>rfl
  | .ptr ..=>rfl
  | .agg cs=>by simp only[aX];rw[Et cs]
  | .bM cs=>by simp only[aX];rw[Et cs]
  | .fn f cs=>by simp only[aX];rw[Et cs]
  | .er t v=>by simp only[aX];rw[wa v]
  | .fL _=>rfl
theorem Et:∀ (l:List AV),m6 (fun j=>j) l=l
  | []=>rfl
  | v::vs=>by simp only[m6];rw[wa v,Et vs]
end
theorem BH (o:Ob):bD (fun j=>j) o=o:=by
  have h:aX (fun j=>j)=id:=by funext v;exact wa v
  cases o with
  | gone=>rfl
  | var cs=>simp[bD,h]
  | arr sz rows=>simp[bD,h]
  | mp ag L=>simp[bD,h]
theorem v9 (n:Nat):a9 n (bn n)=fun j=>j:=by funext j;exact ZW n j
theorem NM (aa:List Ob):∀ (bh:List Ob),aa.length≤bh.length→dQ aa (bn aa.length) bh=bh:=by
  intro bh h
  have hlen:(bn aa.length).length≤bh.length:=by simpa using h
  apply List.ext_getElem?
  intro i
  rcases Nat.lt_or_ge i aa.length with hi | hi
  · have:=Eu (bn aa.length) aa bh hlen (DX) (by simp) i (by simpa using hi)
    simpa [ay,jT hi] using this
  · have uX:=HB (bn aa.length) aa bh hlen
    obtain ⟨j,rfl⟩ :∃j,i=aa.length+j:=⟨i - aa.length,by omega⟩
    have:=NN (bn aa.length) aa bh hlen j
    simpa using this
theorem mu {f:FuncId} {args:List AV} {dst:Option Tmp} {K:St→Prop} {res:AV} {bh:List Ob} (h:ao P f args σ.aa res bh) (hl:σ.aa.length≤bh.length) (hK:K ((⟨σ.env,bh⟩:St).put dst res)):p7 P f args dst K σ:=by
  refine⟨bn σ.aa.length,false,args,σ.aa,res,bh,h,⟨DX,by simp,?_,rfl,?_,by simp⟩,?_⟩
  · intro j o hj
    have aT:=(aY.1 hj).1
    rw[v9,BH]
    simpa [ay,jT aT] using hj
  · intro j c d hc hd
    rw[hc] at hd
    simp only[dw.injEq] at hd
    subst hd
    exact .eq (by rw[v9,wa])
  · rw[v9,wa]
    have:bh.map (bD (fun j=>j))=bh:=by
      have h:bD (fun j=>j)=id:=by funext o;exact BH o
      simp[h]
    rw[this,NM _ _ hl]
    exact hK
end Go.Am
namespace Go.Am
variable {P:Program} {N n0:Nat} {σ:St} {Q:Exit→St→Prop}
theorem ZX {id:Nat} {ops:Array Oper} (hd:gz N ops=true) (h:∀ K:St→Prop,(∀ s,Q .normal s→K s)→opsL P ops ops.toList K σ):W P N n0 (.region id ops false) Q σ :=
  NO hd (h _ (fun _ h=>h))
theorem HC {ops:Array Oper} {K:St→Prop}:∀ (l:List Oper) (i:Nat) (σ:St),ops.toList.drop i=l→opsL P ops l K σ→iS P ops [] (iT (lU i l.length)) K σ
  | [],i,σ,_,h=>h
  | o::r,i,σ,hl,h=>by
    have hi:ops[i]?=some o:=by
      have:(ops.toList.drop i)[0]?=some o:=by rw[hl];rfl
      simpa using this
    have hr:ops.toList.drop (i+1)=r:=by
      have:=congrArg List.tail hl
      simpa [List.tail_drop] using this
    rw[List.length_cons,List.range'_succ]
    show cL P ops [] i (iS P ops [] (iT (lU (i+1) r.length)) K) σ
    unfold cL
    simp only[hi]
    have hm:∀ s,opsL P ops r K s→iS P ops [] (iT (lU (i+1) r.length)) K s:=fun s hs=>HC r (i+1) s hr hs
    refine BK hm ?_
    unfold opsL at h
    unfold dS
    cases hg:o.guard with
    | none=>simp only[hg] at h;exact h
    | some jw =>
      obtain ⟨j,want⟩:=jw
      simp only[hg] at h
      exact h
def ye (ops:Array Oper):Bool:=(iT (bn ops.size)).ok ops [] ops.size (xK ops.size false)
theorem ZY {id:Nat} {ops:Array Oper} {y:Code} (hm:P.follows .mixedOrders=true) (hd:gz N ops=true) (ht:ye ops=true) (h:∀ K:St→Prop,(∀ s,W P N n0 y Q s→K s)→opsL P ops ops.toList K σ) :
    W P N n0 (.seq (.region id ops true) y) Q σ :=
  NK [] _ hm hd ht fun K hK=>by
    have:=HC (P:=P) (ops:=ops) ops.toList 0 σ rfl (h K hK)
    rw[vU]
    simpa using this
theorem ZZ {id:Nat} {ops:Array Oper} (hm:P.follows .mixedOrders=true) (hd:gz N ops=true) (ht:ye ops=true) (h:∀ K:St→Prop,(∀ s,Q .normal s→K s)→opsL P ops ops.toList K σ) :
    W P N n0 (.region id ops true) Q σ :=
  sj [] _ hm hd ht (by
    have:=HC (P:=P) (ops:=ops) ops.toList 0 σ rfl (h _ (fun _ h=>h))
    rw[vU]
    simpa using this)
theorem aE {v res:AV} (hr:gy v=true) (h:v=res):nK 0 σ v res []:=by
  subst h;exact BO hr
theorem Ed (e:Nat→AV) (d:Nat) (v:AV) (k:Nat):jG e d v k=if k=d then v else e k:=by simp only[jG]
theorem M9:IntKind.i64.min = -9223372036854775808:=rfl
theorem M':IntKind.i64.max=9223372036854775807:=rfl
def ints (xs:List Int):List (List AV):=xs.map fun x=>[.lit (.int .i64 x)]
def bf (xs:List Bool):List (List AV):=xs.map fun x=>[.lit (.bool x)]
def kr (xs:List (List Int)):List (List AV):=xs.map fun x=>[.tree 1 (ints x)]
theorem xZ (xs:List Int):(ints xs).length=xs.length:=by simp[ints]
theorem zS (xs:List Bool):(bf xs).length=xs.length:=by simp[bf]
theorem Eh (xs:List (List Int)):(kr xs).length=xs.length:=by simp[kr]
theorem Np (xs:List Int) (i:Nat) (h:i<xs.length):(ints xs).getD i []=[.lit (.int .i64 (xs.getD i 0))]:=by simp[ints,h]
theorem Nq (xs:List Bool) (i:Nat) (h:i<xs.length):(bf xs).getD i []=[.lit (.bool (xs.getD i false))]:=by simp[bf,h]
theorem Nr (xs:List (List Int)) (i:Nat) (h:i<xs.length):(kr xs).getD i []=[.tree 1 (ints (xs.getD i []))]:=by simp[kr,h]
theorem Ns (xs:List Int) (i:Nat) (h:i<xs.length):(ints xs)[i]?=some [.lit (.int .i64 (xs.getD i 0))]:=by simp[ints,h]
theorem Nt (xs:List Bool) (i:Nat) (h:i<xs.length):(bf xs)[i]?=some [.lit (.bool (xs.getD i false))]:=by simp[bf,h]
theorem Nu (xs:List (List Int)) (i:Nat) (h:i<xs.length):(kr xs)[i]?=some [.tree 1 (ints (xs.getD i []))]:=by simp[kr,h]
theorem ints_set (xs:List Int) (i:Nat) (v:Int):(ints xs).set i [.lit (.int .i64 v)]=ints (xs.set i v):=by simp[ints,qD]
theorem tD (xs:List Bool) (i:Nat) (v:Bool):(bf xs).set i [.lit (.bool v)]=bf (xs.set i v):=by simp[bf,qD]
theorem Nv (xs ys:List Int):ints xs++ints ys=ints (xs++ys):=by simp[ints]
theorem Ei (xs:List Int) (v:Int):ints xs++[[.lit (.int .i64 v)]]=ints (xs++[v]):=by simp[ints]
theorem Nw (xs:List (List Int)) (v:List Int):kr xs++[[.tree 1 (ints v)]]=kr (xs++[v]):=by simp[kr]
theorem Hu (xs:List Bool) (v:Bool):bf xs++[[.lit (.bool v)]]=bf (xs++[v]):=by simp[bf]
theorem Ej (n:Nat) (v:Int):aW n [AV.lit (.int .i64 v)]=ints (aW n v):=by simp[ints]
theorem Hv (n:Nat) (v:Bool):aW n [AV.lit (.bool v)]=bf (aW n v):=by simp[bf]
theorem Ek (xs:List Int):((ints xs).all fun row=>row.all cm)=true:=by simp[ints,cm,Value.oneCell']
theorem Nx (xs:List Bool):((bf xs).all fun row=>row.all cm)=true:=by simp[bf,cm,Value.oneCell']
theorem Ny (xs:List (List Int)):((kr xs).all fun row=>row.all cm)=true:=by simp[kr,cm]
theorem wg (ρ:Nat→Nat) (sz:Nat) (xs:List Int):bD ρ (.arr sz (ints xs))=.arr sz (ints xs):=BN (by simp[ints,jl,gy])
theorem xY (ρ:Nat→Nat) (sz:Nat) (xs:List Bool):bD ρ (.arr sz (bf xs))=.arr sz (bf xs):=BN (by
  intro row hr
  simp only[bf,bV] at hr
  obtain ⟨x,_,rfl⟩:=hr
  rfl)
theorem Eg (ρ:Nat→Nat) (sz:Nat) (xs:List (List Int)):bD ρ (.arr sz (kr xs))=.arr sz (kr xs):=BN (by simp[kr,jl,gy])
theorem pw (xs:List Int):∀ row∈ints xs,∀ v∈row,(∃ x,v=AV.lit x)∨∃ s r,v=AV.tree s r:=by
  intro row hr v hv
  simp only[ints,bV] at hr
  obtain ⟨x,_,rfl⟩:=hr
  simp at hv
  exact .inl ⟨_,hv⟩
theorem NP (xs:List Bool):∀ row∈bf xs,∀ v∈row,(∃ x,v=AV.lit x)∨∃ s r,v=AV.tree s r:=by
  intro row hr v hv
  simp only[bf,bV] at hr
  obtain ⟨x,_,rfl⟩:=hr
  simp at hv
  exact .inl ⟨_,hv⟩
theorem Z0 (xs:List (List Int)):∀ row∈kr xs,∀ v∈row,(∃ x,v=AV.lit x)∨∃ s r,v=AV.tree s r:=by
  intro row hr v hv
  simp only[kr,bV] at hr
  obtain ⟨x,_,rfl⟩:=hr
  simp at hv
  exact .inr ⟨_,_,hv⟩
theorem oB (xs:List Int):∀ row∈ints xs,row.length=1:=by
  intro row hr;simp only[ints,bV] at hr;obtain ⟨x,_,rfl⟩:=hr;rfl
theorem HD (xs:List Bool):∀ row∈bf xs,row.length=1:=by
  intro row hr;simp only[bf,bV] at hr;obtain ⟨x,_,rfl⟩:=hr;rfl
theorem Z1 (xs:List (List Int)):∀ row∈kr xs,row.length=1:=by
  intro row hr;simp only[kr,bV] at hr;obtain ⟨x,_,rfl⟩:=hr;rfl
theorem b7 {α:Type} (xs:List α) (i:Nat) (d:α) (h:i<xs.length):xs.drop i=xs.getD i d::xs.drop (i+1):=by
  rw[List.drop_eq_getElem_cons h];simp[h]
end Go.Am

