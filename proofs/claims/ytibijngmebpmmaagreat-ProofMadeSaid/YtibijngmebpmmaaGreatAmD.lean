import Derived.Test.YtibijngmebpmmaaGreatAmC
set_option linter.unusedVariables false
set_option linter.unusedSimpArgs false
namespace Go.Am
variable {P:Program}
def cls:Op→Nat
  | .move _ | .assign _ | .pick .. | .convert .. | .binOp .. | .unOp .. | .makeFunc .. | .field .. | .extract .. | .build ..=>0
  | .call { callee:=.builtin .min,.. } | .call { callee:=.builtin .max,.. }=>0
  | .nilCheck _ | .fieldAddr .. | .indexAddr .. | .slice ..=>1
  | .call { callee:=.builtin .len,.. }=>1
  | .load ..=>2
  | .alloc _ | .box .. | .makeSlice .. | .buildSlice ..=>3
  | .store ..=>4
  | _=>5
def sameK:Ob→Ob→Prop
  | .var _,.var _=>True
  | .arr s _,.arr s' _=>s=s'
  | .gone,.gone=>True
  | _,_=>False
theorem sameK_refl (o:Ob):sameK o o:=by cases o<;>simp[sameK]
def Eff (c:Nat) (a b:List Ob):Prop :=
  if c≤2 then b=a
  else if c=3 then ∀ (id:Nat),id<a.length→b[id]?=a[id]?
  else if c=4 then b.length=a.length∧∀ (id:Nat) o o',a[id]?=some o→b[id]?=some o'→sameK o o'
  else True
theorem eff_id (c:Nat) (h:c≤2) (a:List Ob):Eff c a a:=by simp[Eff,h]
theorem eff_push (a:List Ob) (o:Ob):Eff 3 a (a++[o]):=by
  simp only[Eff];intro id h;exact List.getElem?_append_left h
theorem eff_set (σ:St) (id r:Nat) (row:List AV):Eff 4 σ.objs (setRowOf σ id r row).objs:=by
  simp only[Eff]
  rw[if_neg (by decide),if_neg (by decide),if_pos trivial]
  have key:∀ (x y:Ob),σ.objs[id]?=some x→sameK x y→(σ.objs.set id y).length=σ.objs.length∧∀ (i:Nat) o o',σ.objs[i]?=some o→(σ.objs.set id y)[i]?=some o'→sameK o o':=by
    intro x y hx hxy
    refine⟨by simp,fun i o o' ho ho'=>?_⟩
    rw[List.getElem?_set] at ho'
    split at ho'
    · rename_i e;subst e
      split at ho'
      · simp at ho';subst ho';rw[hx] at ho;simp at ho;subst ho;exact hxy
      · simp at ho'
    · rw[ho] at ho';simp at ho';subst ho';exact sameK_refl o
  unfold setRowOf
  split
  · rename_i cells h;exact key _ _ h trivial
  · rename_i sz rows h;exact key _ _ h rfl
  · exact⟨rfl,fun i o o' ho ho'=>by rw[ho] at ho';simp at ho';subst ho';exact sameK_refl o⟩
def pointsTo:AV→Option Nat
  | .ref id _ _ _=>some id
  | .ptr id _ _=>some id
  | _=>none
def ObjC (c:Nat) (a b:Option Ob):Prop :=
  if c=0 then True else if c=1 then ∀ o,a=some o→∃ o',b=some o'∧sameK o o' else ∀ o,a=some o→b=some o
def SmE (c:Nat) (l:List Operand) (σ:St) (e2:Nat→AV) (ob:List Ob):Prop :=
  (∀ x∈l,ev ⟨e2,ob⟩ x=ev σ x)∧(∀ x∈l,∀ id,pointsTo (ev σ x)=some id→ObjC c σ.objs[id]? ob[id]?)
def DetW (P:Program) (o:Oper) (σ:St) (K:St→Prop) (c:Nat) (l:List Operand):Prop :=
  ∃ v os,Eff c σ.objs os∧K ((⟨σ.env,os⟩:St).put o.dst v)∧∀ e2 ob os2 (K2:St→Prop),SmE c l σ e2 ob→(if c≤2 then os2=ob else ob=σ.objs∧os2=os)→K2 ((⟨e2,os2⟩:St).put o.dst v)→opW P o ⟨e2,ob⟩ K2
theorem dA {o:Oper} {σ:St} {K:St→Prop} {c:Nat} {l:List Operand} {v:AV} (hW:K (σ.put o.dst v))
    (h:∀ e2 ob (K2:St→Prop),SmE c l σ e2 ob→K2 ((⟨e2,ob⟩:St).put o.dst v)→opW P o ⟨e2,ob⟩ K2) (hc:c≤2:=by simp[cls]):DetW P o σ K c l :=
  ⟨v,σ.objs,eff_id _ hc _,hW,fun e2 ob os2 K2 hx ho hK2=>h e2 ob K2 hx (by rw[if_pos hc] at ho;subst ho;exact hK2)⟩
theorem dB {o:Oper} {σ:St} {K:St→Prop} {c:Nat} {l:List Operand} {v:AV} {os:List Ob} (hc:3≤c) (he:Eff c σ.objs os) (hW:K ((⟨σ.env,os⟩:St).put o.dst v))
    (h:∀ e2 (_:List Ob) (K2:St→Prop),SmE 0 l σ e2 σ.objs→K2 ((⟨e2,os⟩:St).put o.dst v)→opW P o ⟨e2,σ.objs⟩ K2):DetW P o σ K c l :=
  ⟨v,os,he,hW,fun e2 ob os2 K2 hx ho hK2=>by rw[if_neg (by omega)] at ho;obtain ⟨rfl,rfl⟩:=ho;exact h e2 σ.objs K2 ⟨hx.1,fun _ _ _ _=>by simp[ObjC]⟩ hK2⟩
theorem parts_eq {parts:Array (Nat × Operand)} {σ τ:St} (h:∀ x∈parts.toList.map (·.2),ev τ x=ev σ x) :
    (parts.toList.map fun p=>(p.1,ev τ p.2))=(parts.toList.map fun p=>(p.1,ev σ p.2))∧(parts.toList.all fun p=>(cellsOf (ev τ p.2)).all scal)=(parts.toList.all fun p=>(cellsOf (ev σ p.2)).all scal):=by
  have hp:(parts.toList.map fun p=>(p.1,ev τ p.2))=(parts.toList.map fun p=>(p.1,ev σ p.2)):=List.map_congr_left fun p hp=>by rw[h _ (List.mem_map_of_mem hp)]
  exact⟨hp,by simpa [List.all_map,Function.comp_def] using congrArg (·.all fun q=>(cellsOf q.2).all scal) hp⟩
theorem loadA_det {t:Ty} {cells:List AV} {c:Nat} {K:AV→Prop} (h:loadA t cells c K) :∃v,K v∧∀ K2:AV→Prop,K2 v→loadA t cells c K2:=by
  unfold loadA at h ⊢
  split at h
  · exact⟨_,h.2,fun K2 hK=>by simp_all⟩
  · split at h<;>first|exact h.elim|exact⟨_,h,fun K2 hK=>by simp_all⟩
theorem intW_det {op:BinOp} {k:IntKind} {p q:Int} {K:Value→Prop} (h:intW op k p q K) :∃v,K v∧∀ K2:Value→Prop,K2 v→intW op k p q K2:=by
  unfold intW at h ⊢
  split at h<;>first|exact⟨_,h.2,fun K2 h'=>⟨h.1,h'⟩⟩|exact⟨_,h,fun K2 h=>h⟩|exact h.elim
theorem rowOf_of {σ:St} {e:Nat→AV} {ob:List Ob} {id r:Nat} {row:List AV} (h:∀ o,σ.objs[id]?=some o→ob[id]?=some o) (hr:rowOf σ id r=some row):rowOf ⟨e,ob⟩ id r=some row:=by
  unfold rowOf at hr ⊢
  cases ho:σ.objs[id]?<;>simp_all
theorem opW_det {o:Oper} {σ:St} {K:St→Prop} (hW:opW P o σ K):DetW P o σ K (cls o.op) o.op.operands.toList:=by
  obtain ⟨dst,op,type,pos,after,guard⟩:=o
  unfold opW at hW
  cases op
  case call c =>
    obtain ⟨callee,args,argTypes⟩:=c
    cases callee<;>try exact hW.elim
    rename_i b
    cases b<;>try exact hW.elim
    all_goals simp only at hW
    case append =>
      (repeat' split at hW)<;>try exact hW.elim
      rename_i s x t t' hx' ht' _ _ _ _ z pre σ1 sz src hk hz hdst hsrc
      have henv:σ1=⟨σ.env,σ1.objs⟩∧∀ e,dstRows ⟨e,σ.objs⟩ (ty P (ty P t).elem).size (ev σ s)=some (pre,⟨e,σ1.objs⟩):=by
        unfold dstRows at hdst ⊢
        (repeat' split at hdst)<;>simp_all
        all_goals obtain ⟨rfl,rfl⟩:=hdst;simp
      refine dB (os:=σ1.objs++[.arr sz (pre++src)]) (by simp[cls]) trivial (by have:=hW.2;rw[henv.1] at this;exact this) fun e2 ob K2 hx hK2=>?_
      have hs2:srcRows ⟨e2,σ.objs⟩ (ev σ x)=some (sz,src):=hsrc
      unfold opW
      simp[SmE,Op.operands,Call.operands,hx'] at hx
      simp only[hx',ht',hx.1.1,hx.1.2,hk,hz,henv.2,hs2]
      exact⟨hW.1,hK2⟩
    case copy =>
      (repeat' split at hW)<;>try exact hW.elim
      rename_i hx' ht' _ _ id _ _ _ _ src he hsrc _ _ _ ho
      refine dB (by simp[cls]) trivial hW.2 fun e2 ob K2 hx hK2=>?_
      have hs2:srcRows ⟨e2,σ.objs⟩ _=_:=hsrc
      unfold opW
      simp[SmE,Op.operands,Call.operands,hx'] at hx
      simp only[hx',ht',hx.1.1,hx.1.2,he,hs2,ho]
      exact⟨hW.1,hK2⟩
    all_goals (repeat' split at hW)<;>first|exact hW.elim|exact hW.2.elim|refine dA hW ?_|refine dA hW.2 ?_|refine dA hW.2.2 ?_
    all_goals
      intro e2 ob K2 hx hK2
      unfold opW
      simp[SmE,Op.operands,Call.operands,pointsTo,ObjC,cls, *] at hx ⊢
      first|done|(simp_all;done)|(obtain ⟨_,o',_,hk⟩:=hx;cases o'<;>simp_all [sameK];done)
  case load t x =>
    simp only at hW
    obtain ⟨hk,hW⟩:=hW
    (repeat' split at hW)<;>try exact hW.elim
    all_goals
      obtain ⟨v,hK,hl⟩:=loadA_det hW
      refine dA hK fun e2 ob K2 hx hK2=>?_
      unfold opW
      simp[SmE,Op.operands,pointsTo,ObjC,cls, *] at hx
      first|simp only[hx.1,rowOf_of hx.2 ‹rowOf _ _ _=_›]|simp only[hx]
      exact⟨hk,hl _ hK2⟩
  case store t x y =>
    simp only at hW
    obtain ⟨hk,hW⟩:=hW
    (repeat' split at hW)<;>try exact hW.elim
    rename_i id r c he _ row hrow
    have henv:∀ row,setRowOf σ id r row=⟨σ.env,(setRowOf σ id r row).objs⟩∧∀ e,setRowOf ⟨e,σ.objs⟩ id r row=⟨e,(setRowOf σ id r row).objs⟩:=by
      intro row;unfold setRowOf;simp only;split<;>simp_all
    refine dB (by simp[cls]) (eff_set _ _ _ _) (by have:=hW.2;rw[(henv _).1] at this;exact this) fun e2 ob K2 hx hK2=>?_
    have hr2:rowOf ⟨e2,σ.objs⟩ id r=some row:=hrow
    unfold opW
    simp only[hx.1 x (by simp[Op.operands]),hx.1 y (by simp[Op.operands]),he,hr2]
    rw[(henv _).2]
    exact⟨hk,hW.1,hK2⟩
  case build t parts =>
    simp only at hW
    (repeat' split at hW)<;>first|exact hW.elim|refine dA hW.2 ?_
    all_goals
      intro e2 ob K2 hx hK2
      obtain ⟨h1,h2⟩:=parts_eq (parts:=parts) (by simpa [Op.operands] using hx.1)
      unfold opW
      simp only[h1,h2, *]
      simp[hW.1]
  case buildSlice t _ parts =>
    simp only at hW
    (repeat' split at hW)<;>first|exact hW.elim|refine dB (Nat.le_refl 3) (eff_push _ _) hW.2 ?_
    intro e2 ob K2 hx hK2
    obtain ⟨h1,h2⟩:=parts_eq (parts:=parts) (by simpa [Op.operands] using hx.1)
    unfold opW
    simp only[h1,h2, *]
    simp[hW.1]
  case makeFunc fn first captured =>
    simp only at hW
    split at hW<;>first|exact hW.elim|refine dA hW.2 fun e2 ob K2 hx hK2=>?_
    unfold opW
    simp only[List.map_congr_left (l:=captured.toList) (f:=ev ⟨e2,ob⟩) (g:=ev σ) fun y hy=>hx.1 y (by simp only[Op.operands,Array.toList_append,List.mem_append];exact .inr hy)]
    exact⟨hW.1,hK2⟩
  case binOp op t x y yt =>
    simp only at hW
    split at hW
    · rename_i k p k' q he hf
      obtain ⟨hk,hW⟩:=hW
      obtain ⟨v,hK,hl⟩:=intW_det hW
      refine dA hK fun e2 ob K2 hx hK2=>?_
      unfold opW
      simp[SmE,Op.operands,he,hf] at hx
      simp only[hx.1.1,hx.1.2]
      exact⟨hk,hl _ hK2⟩
    all_goals (repeat' split at hW)<;>first|exact hW.elim|exact hW.2.elim|refine dA hW.2 ?_
    all_goals
      intro e2 ob K2 hx hK2
      unfold opW
      simp[SmE,Op.operands, *] at hx ⊢
      first|done|(simp_all;done)
  case slice t x lo hi mx =>
    simp only at hW
    obtain ⟨hk,hke,rfl,hW⟩:=hW
    cases lo<;>cases hi<;>simp only[Option.map_some,Option.map_none] at hW
    all_goals (repeat' split at hW)<;>first|exact hW.elim|exact hW.2.elim|exact hW.2.2.elim|refine dA hW.2 ?_|refine dA hW.2.2 ?_|refine dA hW.2.2.2 ?_
    all_goals
      intro e2 ob K2 hx hK2
      unfold opW
      simp only[Option.some.injEq] at *
      simp[SmE,Op.operands,pointsTo,ObjC,cls, *] at hx ⊢
      first|done|(simp_all;done)|(obtain ⟨_,o',_,hk⟩:=hx;cases o'<;>simp_all [sameK];done)|(obtain ⟨_,⟨o',_,hk⟩,_⟩:=hx;cases o'<;>simp_all [sameK];done)|trace_state
  all_goals (try simp only at hW);(try exact hW.elim)
  all_goals (repeat' split at hW)<;>first|exact hW.elim|exact hW.2.elim|exact hW.2.2.elim|refine dA hW ?_|refine dA hW.2 ?_|refine dA hW.2.2 ?_|refine dA hW.2.2.2 ?_|refine dB (Nat.le_refl 3) (eff_push _ _) hW.2 ?_|refine dB (Nat.le_refl 3) (eff_push _ _) hW.2.1 ?_
  all_goals
    intro e2 ob K2 hx hK2
    unfold opW
    simp[SmE,Op.operands,pointsTo,ObjC,cls,-List.all_eq_true, *] at hx ⊢
    first|done|(simp_all;done)|(obtain ⟨_,rfl,_⟩:=hW;simp_all;done)|(obtain ⟨_,o',_,hk⟩:=hx;cases o'<;>simp_all [sameK];done)
theorem opW_local {o:Oper} {σ:St} {K:St→Prop} (hW:opW P o σ K) :
    ∃ v os,Eff (cls o.op) σ.objs os∧K ((⟨σ.env,os⟩:St).put o.dst v)∧∀ (e2:Nat→AV) (K2:St→Prop),(∀ x∈o.op.operands.toList,ev ⟨e2,σ.objs⟩ x=ev σ x)→K2 ((⟨e2,os⟩:St).put o.dst v)→opW P o ⟨e2,σ.objs⟩ K2:=by
  obtain ⟨v,os,h1,h2,h3⟩:=opW_det hW
  refine⟨v,os,h1,h2,fun e2 K2 hx hK=>h3 e2 _ os K2 ⟨hx,fun _ _ _ _=>?_⟩ ?_ hK⟩
  · unfold ObjC
    (repeat' split)<;>first|trivial|exact fun o ho=>ho|exact fun o ho=>⟨o,ho,sameK_refl o⟩
  · split
    · rename_i hc;simpa [Eff,hc] using h1
    · exact⟨rfl,rfl⟩
theorem opW_value {o:Oper} {σ:St} {K:St→Prop} (hc:cls o.op≤2) (hW:opW P o σ K) :
    ∃ v,K (σ.put o.dst v)∧∀ (σ2:St) (K2:St→Prop),(∀ x∈o.op.operands.toList,ev σ2 x=ev σ x)→(∀ x∈o.op.operands.toList,∀ id,pointsTo (ev σ x)=some id→ObjC (cls o.op) σ.objs[id]? σ2.objs[id]?) →
      K2 (σ2.put o.dst v)→opW P o σ2 K2:=by
  obtain ⟨v,os,h1,h2,h3⟩:=opW_det hW
  simp only[Eff,hc,if_true] at h1 h3
  subst h1
  exact⟨v,h2,fun σ2 K2 hx ho hK=>h3 σ2.env σ2.objs _ K2 ⟨hx,ho⟩ rfl hK⟩
end Go.Am
namespace Go.Am
variable {P:Program}
def callQ (P:Program) (g:FuncId) (args:List AV) (dst:Option Tmp) (K:St→Prop) (σ:St):Prop :=
  ∃ res,Holds P g args [] res []∧noRefL args=true∧noRef res=true∧K (σ.put dst res)
def loadQ (P:Program) (t:TypeId) (dst:Option Tmp) (K:St→Prop) (σ:St):AV→Prop
  | .taddr cells=>(ty P t).kind≠99∧loadA (ty P t) cells 0 fun v=>K (σ.put dst v)
  | _=>False
def opGm (q:Bool) (P:Program) (o:Oper) (σ:St) (K:St→Prop):Prop :=
  match q with
  | false=>opG P o σ K
  | true =>
    match o.op with
    | .call { callee:=.value f,args,.. } =>
      match ev σ f with
      | .fn g caps=>callQ P g (args.toList.map (ev σ)++caps) o.dst K σ
      | _=>False
    | .load t a=>loadQ P t o.dst K σ (ev σ a)
    | _=>False
theorem loadQ_opG {o:Oper} {σ:St} {K:St→Prop} {t:TypeId} {a:Operand} (hop:o.op=.load t a) (h:loadQ P t o.dst K σ (ev σ a)):opG P o σ K:=by
  unfold opG
  simp only[hop]
  unfold opW
  simp only[hop]
  unfold loadQ at h
  split at h
  · rename_i cells he
    simp only[he]
    exact h
  · exact h.elim
theorem loadQ_det {t:TypeId} {dst:Option Tmp} {K:St→Prop} {σ:St} {v:AV} (h:loadQ P t dst K σ v) :∃x,K (σ.put dst x)∧∀ (σ2:St) (K2:St→Prop),K2 (σ2.put dst x)→loadQ P t dst K2 σ2 v:=by
  unfold loadQ at h
  split at h
  · rename_i cells
    obtain ⟨h1,h2⟩:=h
    unfold loadA at h2
    split at h2
    · rename_i ha
      refine⟨_,h2.2,fun σ2 K2 hK=>?_⟩
      unfold loadQ loadA
      simp only
      rw[if_pos ha]
      exact⟨h1,h2.1,hK⟩
    · rename_i ha
      split at h2
      · rename_i x hx
        refine⟨x,h2,fun σ2 K2 hK=>?_⟩
        unfold loadQ loadA
        simp only
        rw[if_neg ha,hx]
        exact⟨h1,hK⟩
      · exact h2.elim
  · exact h.elim
def guardM (q:Bool) (P:Program) (o:Oper) (K:St→Prop) (b want:Bool) (σ:St):Prop:=(b=want→opGm q P o σ K)∧(b≠want→K (σ.put o.dst (.lit (.tuple #[]))))
def stepD (P:Program) (ops:Array Oper) (q:Bool) (o:Oper) (K:St→Prop) (σ:St):Prop :=
  match o.guard with
  | none=>opGm q P o σ K
  | some (j,want) =>
    match (ops[j]?).bind (·.dst) with
    | none=>False
    | some d =>
      match σ.env d with
      | .lit (.bool b)=>guardM q P o K b want σ
      | .lit (.tuple vs)=>vs = #[]∧K (σ.put o.dst (.lit (.tuple #[])))
      | _=>False
theorem opGm_opG {q:Bool} {o:Oper} {σ:St} {K:St→Prop} (h:opGm q P o σ K):opG P o σ K:=by
  cases q with
  | false=>exact h
  | true =>
    unfold opGm at h
    simp only at h
    unfold opG
    split at h
    · rename_i f args ats hop
      simp only[hop]
      split at h
      · rename_i g caps he
        simp only[he]
        obtain ⟨res,h1,h2,h3,h4⟩:=h
        exact callK_pure h1 h2 h3 h4
      · exact h.elim
    · rename_i t a hop
      have:=loadQ_opG hop h
      unfold opG at this
      simpa only[hop] using this
    · exact h.elim
theorem stepD_sound {N:Nat} {os:List Ob} {γ0:Cx} {ops:Array Oper} (hd:∀ o∈ops.toList,∀ d,o.dst=some d→d<N) {q:Bool} {i:Nat} {o:Oper} (hi:ops[i]?=some o) {σ:St} {K:St→Prop}
    (h:stepD P ops q o K σ) {a:Act} {w:World} (hok:Okay N os γ0 σ a w) {Q:Exit→Act→World→Prop} {next:Act→World→Prop} (hn:∀ σ' a' w',K σ'→Okay N os γ0 σ' a' w'→next a' w'):wpOp P ops Q i next a w:=by
  have hmem:o∈ops.toList:=List.mem_of_getElem? (by simpa using hi)
  unfold wpOp
  simp only[hi]
  unfold stepD at h
  cases hg:o.guard with
  | none =>
    simp only[hg] at h
    have hw:Region.wanted o (yielded ops a.tmps)=true:=by simp[Region.wanted,hg]
    rw[if_pos hw]
    left
    exact opG_sound (opGm_opG h) hok (hd o hmem) hn
  | some jw =>
    obtain ⟨j,want⟩:=jw
    simp only[hg] at h
    cases hdj:(ops[j]?).bind (·.dst) with
    | none=>simp[hdj] at h
    | some d =>
      simp only[hdj] at h
      split at h
      · rename_i b he
        obtain ⟨hdf,hsz,γ,rfl,ha,hs,hf⟩:=hok
        have hslot:=hs.slots d
        rw[he,ha] at hslot
        have hv:=hslot.lit_inv
        have hy:yielded ops a.tmps j=some b:=by
          unfold yielded
          rw[hdj]
          have:a.tmps[d]?=some (.bool b):=by
            rw[Array.getD_eq_getD_getElem?] at hv
            cases hx:a.tmps[d]? with
            | none=>rw[hx] at hv;simp[Go.undef] at hv
            | some y=>rw[hx] at hv;simp at hv;rw[hv]
          simp[this]
        by_cases hbw:b=want
        · have hw:Region.wanted o (yielded ops a.tmps)=true:=by simp[Region.wanted,hg,hy,hbw]
          rw[if_pos hw]
          left
          exact opG_sound (opGm_opG (h.1 hbw)) ⟨hdf,hsz,γ,rfl,ha,hs,hf⟩ (hd o hmem) hn
        · have hw:Region.wanted o (yielded ops a.tmps)=false:=by simp[Region.wanted,hg,hy,hbw]
          rw[if_neg (by rw[hw];simp)]
          refine hn _ _ _ (h.2 hbw) ⟨by rw[put_defers];exact hdf,by rw[put_size];exact hsz,{ γ with tmps:=(a.put o.dst Go.undef).tmps },rfl,rfl,put_sim hs ha (fun d h=>by rw[hsz];exact hd o hmem d h) (.lit _),?_⟩
          rw[objs_put];exact hf.put _
      · rename_i vs he
        obtain ⟨hdf,hsz,γ,rfl,ha,hs,hf⟩:=hok
        have hslot:=hs.slots d
        rw[he,ha] at hslot
        have hv:=hslot.lit_inv
        have hy:yielded ops a.tmps j=none:=by
          unfold yielded
          rw[hdj]
          rw[Array.getD_eq_getD_getElem?] at hv
          cases hx:a.tmps[d]? with
          | none=>simp[hx]
          | some y=>rw[hx] at hv;simp at hv;subst hv;simp[hx]
        have hw:Region.wanted o (yielded ops a.tmps)=false:=by simp[Region.wanted,hg,hy]
        rw[if_neg (by rw[hw];simp)]
        refine hn _ _ _ h.2 ⟨by rw[put_defers];exact hdf,by rw[put_size];exact hsz,{ γ with tmps:=(a.put o.dst Go.undef).tmps },rfl,rfl,put_sim hs ha (fun d h=>by rw[hsz];exact hd o hmem d h) (.lit _),?_⟩
        rw[objs_put];exact hf.put _
      · exact h.elim
theorem eff_refl (c:Nat) (a:List Ob):Eff c a a:=by
  unfold Eff
  split
  · rfl
  · split
    · intro id _;rfl
    · split
      · exact⟨rfl,fun id o o' h h'=>by rw[h] at h';simp at h';subst h';exact sameK_refl o⟩
      · trivial
theorem Frz.objs {σ σ2:St} (h:σ2.objs=σ.objs) {kp:Nat→Prop} {c d:AV} (ha:Frz σ kp c d):Frz σ2 kp c d:=by
  induction ha with
  | lit x=>exact .lit x
  | tree s r=>exact .tree s r
  | nil sz=>exact .nil sz
  | ref id sz off len rows rows' g hob hsel hl0 hw0 hg1 hg2 ih=>exact .ref id sz off len rows rows' g (by rw[h];exact hob) hsel hl0 hw0 hg1 ih
theorem ArgR.objs {σ σ2:St} (h:σ2.objs=σ.objs) {kp:Nat→Prop} {ρ:Nat→Nat} {snap:Bool} {c d:AV} (ha:ArgR σ kp ρ snap c d):ArgR σ2 kp ρ snap c d:=by
  induction ha with
  | same v=>exact .same v
  | snap c d hs hf=>exact .snap c d hs (hf.objs h)
  | agg cs ds hl _ ih=>exact .agg cs ds hl ih
  | tup cs ds hl _ ih=>exact .tup cs ds hl ih
def clsQ (q:Bool) (o:Oper):Nat:=if q then 0 else cls o.op
theorem ev_looks {ops:Array Oper} {o:Oper} {σ:St} {e2:Nat→AV} {os:List Ob} (h:∀ t∈o.looksAt ops,e2 t=σ.env t):∀ x∈o.op.operands.toList,ev ⟨e2,os⟩ x=ev σ x:=by
  intro x hx
  cases x with
  | tmp t =>
    show e2 t=σ.env t
    refine h t ?_
    unfold Oper.looksAt
    rw[List.mem_append]
    left
    rw[List.mem_filterMap]
    exact⟨_,hx,rfl⟩
  | const v=>rfl
  | func f=>rfl
  | global g=>rfl
theorem opG_local {o:Oper} {σ:St} {K:St→Prop} (hW:opG P o σ K) :
    ∃ v os,Eff (cls o.op) σ.objs os∧K ((⟨σ.env,os⟩:St).put o.dst v)∧∀ (e2:Nat→AV) (K2:St→Prop),(∀ x∈o.op.operands.toList,ev ⟨e2,σ.objs⟩ x=ev σ x)→K2 ((⟨e2,os⟩:St).put o.dst v)→opG P o ⟨e2,σ.objs⟩ K2:=by
  unfold opG at hW ⊢
  split at hW
  · rename_i f args ats hop
    simp only[hop]
    split at hW
    · rename_i g caps he
      obtain ⟨sel,snap,cargs,cobjs,res,cobjs',h1,⟨h2,h3,h4,h5,h6,h7⟩,h8⟩:=hW
      refine⟨_,_,(by simp[Eff,cls]),h8,fun e2 K2 hx hK=>?_⟩
      have e1:ev ⟨e2,σ.objs⟩ f=.fn g caps:=by rw[← he];exact hx f (by simp[Op.operands,Call.operands])
      have e3:args.toList.map (ev ⟨e2,σ.objs⟩)=args.toList.map (ev σ):=List.map_congr_left fun y hy=>hx y (by simp only[Op.operands,Call.operands,Array.toList_append,List.mem_append];exact .inr hy)
      simp only[e1,e3]
      exact⟨sel,snap,cargs,cobjs,res,cobjs',h1,⟨h2,h3,h4,h5,fun j c d hc hd=>ArgR.objs (σ:=σ) (σ2:=⟨e2,σ.objs⟩) rfl (h6 j c d hc hd),h7⟩,hK⟩
    · exact hW.elim
  · rename_i hne
    obtain ⟨v,os,h1,h2,h3⟩:=opW_local hW
    refine⟨v,os,h1,h2,fun e2 K2 hx hK=>?_⟩
    have:=h3 e2 K2 hx hK
    exact this
theorem opG_value {o:Oper} {σ:St} {K:St→Prop} (hc:cls o.op≤2) (hW:opG P o σ K) :
    ∃ v,K (σ.put o.dst v)∧∀ (σ2:St) (K2:St→Prop),(∀ x∈o.op.operands.toList,ev σ2 x=ev σ x)→(∀ (id:Nat),ObjC (cls o.op) σ.objs[id]? σ2.objs[id]?)→K2 (σ2.put o.dst v)→opG P o σ2 K2:=by
  unfold opG at hW ⊢
  split at hW
  · rename_i f args ats hop
    rw[hop] at hc
    simp[cls] at hc
  · rename_i hne
    obtain ⟨v,h2,h3⟩:=opW_value hc hW
    refine⟨v,h2,fun σ2 K2 hx ho hK=>?_⟩
    exact h3 σ2 K2 hx (fun x _ id _=>ho id) hK
theorem opGm_local {q:Bool} {o:Oper} {σ:St} {K:St→Prop} (hW:opGm q P o σ K) :
    ∃ v os,Eff (clsQ q o) σ.objs os∧K ((⟨σ.env,os⟩:St).put o.dst v)∧∀ (e2:Nat→AV) (K2:St→Prop),(∀ x∈o.op.operands.toList,ev ⟨e2,σ.objs⟩ x=ev σ x)→K2 ((⟨e2,os⟩:St).put o.dst v)→opGm q P o ⟨e2,σ.objs⟩ K2:=by
  cases q with
  | false=>exact opG_local hW
  | true =>
    unfold opGm at hW ⊢
    simp only at hW ⊢
    split at hW
    · rename_i f args ats hop
      simp only[hop]
      split at hW
      · rename_i g caps he
        obtain ⟨res,h1,h2,h3,h4⟩:=hW
        refine⟨res,σ.objs,eff_refl _ _,h4,fun e2 K2 hx hK=>?_⟩
        have e1:ev ⟨e2,σ.objs⟩ f=.fn g caps:=by rw[← he];exact hx f (by simp[Op.operands,Call.operands])
        have e3:args.toList.map (ev ⟨e2,σ.objs⟩)=args.toList.map (ev σ):=List.map_congr_left fun y hy=>hx y (by simp only[Op.operands,Call.operands,Array.toList_append,List.mem_append];exact .inr hy)
        simp only[e1,e3]
        exact⟨res,h1,h2,h3,hK⟩
      · exact hW.elim
    · rename_i t a hop
      obtain ⟨x,h1,h2⟩:=loadQ_det hW
      refine⟨x,σ.objs,eff_refl _ _,h1,fun e2 K2 hx hK=>?_⟩
      rw[hx a (by simp[hop,Op.operands])]
      exact h2 _ K2 hK
    · exact hW.elim
theorem opGm_value {q:Bool} {o:Oper} {σ:St} {K:St→Prop} (hc:clsQ q o≤2) (hW:opGm q P o σ K) :
    ∃ v,K (σ.put o.dst v)∧∀ (σ2:St) (K2:St→Prop),(∀ x∈o.op.operands.toList,ev σ2 x=ev σ x)→(∀ (id:Nat),ObjC (clsQ q o) σ.objs[id]? σ2.objs[id]?)→K2 (σ2.put o.dst v)→opGm q P o σ2 K2:=by
  cases q with
  | false=>exact opG_value hc hW
  | true =>
    unfold opGm at hW ⊢
    simp only at hW ⊢
    split at hW
    · rename_i f args ats hop
      simp only[hop]
      split at hW
      · rename_i g caps he
        obtain ⟨res,h1,h2,h3,h4⟩:=hW
        refine⟨res,h4,fun σ2 K2 hx _ hK=>?_⟩
        have e1:ev σ2 f=.fn g caps:=by rw[← he];exact hx f (by simp[Op.operands,Call.operands])
        have e3:args.toList.map (ev σ2)=args.toList.map (ev σ):=List.map_congr_left fun y hy=>hx y (by simp only[Op.operands,Call.operands,Array.toList_append,List.mem_append];exact .inr hy)
        simp only[e1,e3]
        exact⟨res,h1,h2,h3,hK⟩
      · exact hW.elim
    · rename_i t a hop
      obtain ⟨x,h1,h2⟩:=loadQ_det hW
      refine⟨x,h1,fun σ2 K2 hx _ hK=>?_⟩
      rw[hx a (by simp[hop,Op.operands])]
      exact h2 _ K2 hK
    · exact hW.elim
theorem guard_looks {ops:Array Oper} {o:Oper} {j d:Nat} {want:Bool} (hg:o.guard=some (j,want)) (hd:(ops[j]?).bind (·.dst)=some d):d∈o.looksAt ops:=by
  unfold Oper.looksAt
  rw[List.mem_append]
  right
  simp[hg,hd]
theorem stepD_local {ops:Array Oper} {q:Bool} {o:Oper} {σ:St} {K:St→Prop} (hW:stepD P ops q o K σ) :
    ∃ v os,Eff (clsQ q o) σ.objs os∧K ((⟨σ.env,os⟩:St).put o.dst v)∧∀ (e2:Nat→AV) (K2:St→Prop),(∀ t∈o.looksAt ops,e2 t=σ.env t)→K2 ((⟨e2,os⟩:St).put o.dst v)→stepD P ops q o K2 ⟨e2,σ.objs⟩:=by
  unfold stepD at hW ⊢
  cases hg:o.guard with
  | none =>
    simp only[hg] at hW
    obtain ⟨v,os,h1,h2,h3⟩:=opGm_local hW
    exact⟨v,os,h1,h2,fun e2 K2 hl hK=>h3 e2 K2 (ev_looks hl) hK⟩
  | some jw =>
    obtain ⟨j,want⟩:=jw
    simp only[hg] at hW
    cases hdj:(ops[j]?).bind (·.dst) with
    | none=>simp[hdj] at hW
    | some d =>
      simp only[hdj] at hW
      split at hW
      · rename_i b he
        by_cases hbw:b=want
        · obtain ⟨v,os,h1,h2,h3⟩:=opGm_local (hW.1 hbw)
          refine⟨v,os,h1,h2,fun e2 K2 hl hK=>?_⟩
          have:e2 d=.lit (.bool b):=by rw[hl d (guard_looks hg hdj)];exact he
          simp only[hdj,this]
          exact⟨fun _=>h3 e2 K2 (ev_looks hl) hK,fun hn=>absurd hbw hn⟩
        · refine⟨.lit (.tuple #[]),σ.objs,eff_refl _ _,hW.2 hbw,fun e2 K2 hl hK=>?_⟩
          have:e2 d=.lit (.bool b):=by rw[hl d (guard_looks hg hdj)];exact he
          simp only[hdj,this]
          exact⟨fun hn=>absurd hn hbw,fun _=>hK⟩
      · rename_i vs he
        refine⟨.lit (.tuple #[]),σ.objs,eff_refl _ _,hW.2,fun e2 K2 hl hK=>?_⟩
        have:e2 d=.lit (.tuple vs):=by rw[hl d (guard_looks hg hdj)];exact he
        simp only[hdj,this]
        exact⟨hW.1,hK⟩
      · exact hW.elim
theorem stepD_value {ops:Array Oper} {q:Bool} {o:Oper} {σ:St} {K:St→Prop} (hc:clsQ q o≤2) (hW:stepD P ops q o K σ) :
    ∃ v,K (σ.put o.dst v)∧∀ (σ2:St) (K2:St→Prop),(∀ t∈o.looksAt ops,σ2.env t=σ.env t)→(∀ (id:Nat),ObjC (clsQ q o) σ.objs[id]? σ2.objs[id]?)→K2 (σ2.put o.dst v)→stepD P ops q o K2 σ2:=by
  unfold stepD at hW ⊢
  cases hg:o.guard with
  | none =>
    simp only[hg] at hW
    obtain ⟨v,h2,h3⟩:=opGm_value hc hW
    exact⟨v,h2,fun σ2 K2 hl ho hK=>h3 σ2 K2 (ev_looks (e2:=σ2.env) (os:=σ2.objs) hl) ho hK⟩
  | some jw =>
    obtain ⟨j,want⟩:=jw
    simp only[hg] at hW
    cases hdj:(ops[j]?).bind (·.dst) with
    | none=>simp[hdj] at hW
    | some d =>
      simp only[hdj] at hW
      split at hW
      · rename_i b he
        by_cases hbw:b=want
        · obtain ⟨v,h2,h3⟩:=opGm_value hc (hW.1 hbw)
          refine⟨v,h2,fun σ2 K2 hl ho hK=>?_⟩
          have:σ2.env d=.lit (.bool b):=by rw[hl d (guard_looks hg hdj)];exact he
          simp only[hdj,this]
          exact⟨fun _=>h3 σ2 K2 (ev_looks (e2:=σ2.env) (os:=σ2.objs) hl) ho hK,fun hn=>absurd hbw hn⟩
        · refine⟨.lit (.tuple #[]),hW.2 hbw,fun σ2 K2 hl ho hK=>?_⟩
          have:σ2.env d=.lit (.bool b):=by rw[hl d (guard_looks hg hdj)];exact he
          simp only[hdj,this]
          exact⟨fun hn=>absurd hn hbw,fun _=>hK⟩
      · rename_i vs he
        refine⟨.lit (.tuple #[]),hW.2,fun σ2 K2 hl ho hK=>?_⟩
        have:σ2.env d=.lit (.tuple vs):=by rw[hl d (guard_looks hg hdj)];exact he
        simp only[hdj,this]
        exact⟨hW.1,hK⟩
      · exact hW.elim
theorem put_env_ne {σ:St} {dst:Option Tmp} {v:AV} {t:Nat} (h:∀ d,dst=some d→d≠t):(σ.put dst v).env t=σ.env t:=by
  cases dst with
  | none=>rfl
  | some d =>
    have:=h d rfl
    simp[St.put,upd,Ne.symm this]
theorem put_comm' {σ:St} {x y:Option Tmp} {v u:AV} (h:∀ d,x=some d→y≠some d):(σ.put x v).put y u=(σ.put y u).put x v:=by
  cases x with
  | none=>rfl
  | some d =>
    cases y with
    | none=>rfl
    | some d' =>
      have hne:d'≠d:=fun e=>h d rfl (by rw[e])
      simp only[St.put]
      congr 1
      funext k
      simp only[upd]
      split<;>split<;>simp_all
theorem put_objs {σ:St} {x:Option Tmp} {v:AV}:(σ.put x v).objs=σ.objs:=by cases x<;>rfl
theorem put_eta {σ:St} {x:Option Tmp} {v:AV}:σ.put x v=⟨(σ.put x v).env,σ.objs⟩:=by cases x<;>rfl
theorem put_over {σ:St} {os:List Ob} {x:Option Tmp} {v:AV}:(⟨(σ.put x v).env,os⟩:St)=(⟨σ.env,os⟩:St).put x v:=by cases x<;>rfl
def compat (ci ck:Nat):Bool:=ci == 0 || ck == 0 || (ci == 1 && decide (ck≤4)) || (ci == 2 && decide (ck≤3))
theorem eff_objC {ci ck:Nat} (h:(ci == 0 || (ci == 1 && decide (ck≤4)) || (ci == 2 && decide (ck≤3)))=true) {a b:List Ob} (he:Eff ck a b) (id:Nat):ObjC ci a[id]? b[id]?:=by
  simp only[Bool.or_eq_true,Bool.and_eq_true,beq_iff_eq,decide_eq_true_eq] at h
  rcases h with (rfl | ⟨rfl,hk⟩) | ⟨rfl,hk⟩
  · simp[ObjC]
  · unfold Eff at he
    have:∀ o,a[id]?=some o→∃ o',b[id]?=some o'∧sameK o o':=by
      intro o ho
      have hlt:=(List.getElem?_eq_some_iff.1 ho).1
      split at he
      · subst he;exact⟨o,ho,sameK_refl o⟩
      · split at he
        · exact⟨o,by rw[he id hlt];exact ho,sameK_refl o⟩
        · split at he
          · have hb:id<b.length:=by omega
            exact⟨b[id],by simp[hb],he.2 id o _ ho (by simp[hb])⟩
          · omega
    simpa [ObjC] using this
  · unfold Eff at he
    have:∀ o,a[id]?=some o→b[id]?=some o:=by
      intro o ho
      have hlt:=(List.getElem?_eq_some_iff.1 ho).1
      split at he
      · subst he;exact ho
      · split at he
        · rw[he id hlt];exact ho
        · omega
    simpa [ObjC] using this
theorem swap_value {ops:Array Oper} {qi qk:Bool} {oi ok:Oper} (ha:oi.apart ops ok=true) (hi:clsQ qi oi≤2)
    (hc:(clsQ qi oi == 0 || (clsQ qi oi == 1 && decide (clsQ qk ok≤4)) || (clsQ qi oi == 2 && decide (clsQ qk ok≤3)))=true) {σ:St} {K:St→Prop}
    (h:stepD P ops qi oi (stepD P ops qk ok K) σ):stepD P ops qk ok (stepD P ops qi oi K) σ:=by
  obtain ⟨a1,a2,a3⟩:=Oper.apart_spec ha
  obtain ⟨v,h1,run⟩:=stepD_value hi h
  obtain ⟨vk,os,heff,h2,run2⟩:=stepD_local h1
  rw[put_objs] at heff run2
  refine run2 σ.env _ (fun t ht=>(put_env_ne fun d hd e=>a1 d hd (e ▸ ht)).symm) ?_
  refine run _ _ (fun t ht=>?_) (fun id=>?_) ?_
  · rw[put_env_ne fun d hd e=>a3 d hd (e ▸ ht)]
  · rw[put_objs];exact eff_objC hc heff id
  · rw[put_over] at h2
    rw[put_comm' (fun d hd e=>a2 d e hd)]
    exact h2
theorem swap_quiet {ops:Array Oper} {qi qk:Bool} {oi ok:Oper} (ha:oi.apart ops ok=true) (hk:clsQ qk ok=0) {σ:St} {K:St→Prop}
    (h:stepD P ops qi oi (stepD P ops qk ok K) σ):stepD P ops qk ok (stepD P ops qi oi K) σ:=by
  obtain ⟨a1,a2,a3⟩:=Oper.apart_spec ha
  obtain ⟨vi,os,heff,h1,run⟩:=stepD_local h
  obtain ⟨vk,h2,runk⟩:=stepD_value (by omega) h1
  refine runk σ _ (fun t ht=>(put_env_ne (σ:=⟨σ.env,os⟩) fun d hd e=>a1 d hd (e ▸ ht)).symm) (fun id=>by rw[hk];simp[ObjC]) ?_
  rw[put_eta]
  refine run _ _ (fun t ht=>put_env_ne fun d hd e=>a3 d hd (e ▸ ht)) ?_
  rw[put_over,put_comm' (fun d hd e=>a2 d e hd)]
  exact h2
theorem swap_steps {ops:Array Oper} {qi qk:Bool} {oi ok:Oper} (ha:oi.apart ops ok=true) (hc:compat (clsQ qi oi) (clsQ qk ok)=true) {σ:St} {K:St→Prop}
    (h:stepD P ops qi oi (stepD P ops qk ok K) σ):stepD P ops qk ok (stepD P ops qi oi K) σ:=by
  by_cases hk:clsQ qk ok=0
  · exact swap_quiet ha hk h
  · have hc':(clsQ qi oi == 0 || (clsQ qi oi == 1 && decide (clsQ qk ok≤4)) || (clsQ qi oi == 2 && decide (clsQ qk ok≤3)))=true:=by
      simp only[compat,Bool.or_eq_true,Bool.and_eq_true,beq_iff_eq,decide_eq_true_eq] at hc ⊢
      rcases hc with ((h | h) | h) | h
      · exact .inl (.inl h)
      · exact absurd h hk
      · exact .inl (.inr h)
      · exact .inr h
    refine swap_value ha ?_ hc' h
    simp only[Bool.or_eq_true,Bool.and_eq_true,beq_iff_eq,decide_eq_true_eq] at hc'
    omega
end Go.Am
namespace Go.Am
variable {P:Program} {N n0:Nat} {σ:St}
def stepAt (P:Program) (ops:Array Oper) (qs:List Nat) (i:Nat) (K:St→Prop) (σ:St):Prop :=
  match ops[i]? with
  | none=>K σ
  | some o=>stepD P ops (qs.contains i) o K σ
def anyW (P:Program) (ops:Array Oper) (qs:List Nat) (K:St→Prop):Nat→Array Bool→St→Prop
  | 0,listed,σ=>Region.ready .any ops listed=[]∧K σ
  | n+1,listed,σ=>(Region.ready .any ops listed=[]→K σ)∧∀ i∈Region.ready .any ops listed,stepAt P ops qs i (anyW P ops qs K n (listed.setIfInBounds i true)) σ
theorem stepD_mono {ops:Array Oper} {q:Bool} {o:Oper} {σ:St} {K K2:St→Prop} (hk:∀ s,K s→K2 s) (h:stepD P ops q o K σ):stepD P ops q o K2 σ:=by
  obtain ⟨v,os,_,h2,run⟩:=stepD_local h
  exact run σ.env K2 (fun _ _=>rfl) (hk _ h2)
theorem stepD_some {ops:Array Oper} {q:Bool} {o:Oper} {σ:St} {K:St→Prop} (h:stepD P ops q o K σ) :∃s,K s:=by
  obtain ⟨v,os,_,h2,run⟩:=stepD_local h
  exact⟨_,h2⟩
theorem stepAt_mono {ops:Array Oper} {qs:List Nat} {i:Nat} {σ:St} {K K2:St→Prop} (hk:∀ s,K s→K2 s) (h:stepAt P ops qs i K σ):stepAt P ops qs i K2 σ:=by
  unfold stepAt at h ⊢
  split at h
  · exact hk _ h
  · exact stepD_mono hk h
theorem stepAt_some {ops:Array Oper} {qs:List Nat} {i:Nat} {σ:St} {K:St→Prop} (h:stepAt P ops qs i K σ) :∃s,K s:=by
  unfold stepAt at h
  split at h
  · exact⟨_,h⟩
  · exact stepD_some h
theorem anyW_sound {os:List Ob} {γ0:Cx} {ops:Array Oper} {qs:List Nat} (hd:∀ o∈ops.toList,∀ d,o.dst=some d→d<N) {K:St→Prop} {Q:Exit→Act→World→Prop}
    (hQ:∀ σ' a' w',K σ'→Okay N os γ0 σ' a' w'→Q .normal a' w'):∀ (n:Nat) (listed:Array Bool) (σ:St) (a:Act) (w:World),anyW P ops qs K n listed σ→Okay N os γ0 σ a w→wpAny P .any ops Q n listed a w
  | 0,listed,σ,a,w,h,hok=>⟨h.1,hQ _ _ _ h.2 hok⟩
  | n+1,listed,σ,a,w,h,hok=>by
    refine⟨fun hr=>hQ _ _ _ (h.1 hr) hok,fun i hi=>?_⟩
    have:=h.2 i hi
    unfold stepAt at this
    split at this
    · rename_i hi'
      unfold wpOp
      simp only[hi']
      exact anyW_sound hd hQ n _ _ _ _ this hok
    · rename_i o hi'
      exact stepD_sound hd hi' this hok fun σ' a' w' hK hok'=>anyW_sound hd hQ n _ _ _ _ hK hok'
theorem W_region_any {id:Nat} {ops:Array Oper} {Q:Exit→St→Prop} (qs:List Nat) (hm:P.follows .mixedOrders=true) (hd:dstOK N ops=true)
    (h:anyW P ops qs (Q .normal) ops.size (Array.replicate ops.size false) σ):W P N n0 (.region id ops true) Q σ:=by
  intro os γ0 a w _ hok
  refine wp_region_any hm ?_
  exact anyW_sound (dstOK_spec hd) (K:=Q .normal) (fun σ' a' w' hK hok'=>⟨σ',hK,hok'⟩) _ _ _ _ _ h hok.drawn
theorem any_take {ops:Array Oper} {qs:List Nat} {K:St→Prop} {i:Nat} {o:Oper} (hi:ops[i]?=some o) (D:List Nat) (hiD:i∈D)
    (hD:∀ j∈D,j=i∨∃ oj,ops[j]?=some oj∧∃ e∈oj.after,Region.binds .any e=true∧e.on∈D):∀ (fuel:Nat) (listed:Array Bool) (σ:St),(∀ j∈D,listed.getD j true=false) →
      i∈Region.ready .any ops listed →
      (∀ j oj,ops[j]?=some oj→listed.getD j true=false→j ∉ D→o.apart ops oj=true∧compat (clsQ (qs.contains i) o) (clsQ (qs.contains j) oj)=true) →
      stepAt P ops qs i (anyW P ops qs K fuel (listed.setIfInBounds i true)) σ→anyW P ops qs K (fuel+1) listed σ:=by
  intro fuel
  induction fuel with
  | zero =>
    intro listed σ hu hr hap h
    refine⟨fun e=>by rw[e] at hr;simp at hr,fun k hk=>?_⟩
    by_cases hki:k=i
    · subst hki;exact h
    · obtain ⟨s,hs⟩:=stepAt_some h
      have:=ready_mono hk hki
      rw[hs.1] at this
      simp at this
  | succ m ih =>
    intro listed σ hu hr hap h
    refine⟨fun e=>by rw[e] at hr;simp at hr,fun k hk=>?_⟩
    by_cases hki:k=i
    · subst hki;exact h
    · have hkr:=mem_ready.1 hk
      obtain ⟨hkl,ok,hok,hke⟩:=hkr
      have hkD:k ∉ D:=by
        intro hkD
        rcases hD k hkD with e | ⟨oj,hoj,e,he,hb,hon⟩
        · exact hki e
        · rw[hok] at hoj
          simp only[Option.some.injEq] at hoj
          subst hoj
          have h1:=hke e he hb
          have h2:=hu e.on hon
          rw[Array.getD_eq_getD_getElem?] at h1 h2
          cases hx:listed[e.on]? with
          | none=>rw[hx] at h1;simp at h1
          | some b=>rw[hx] at h1 h2;simp at h1 h2;rw[h1] at h2;simp at h2
      obtain ⟨ha,hc⟩:=hap k ok hok hkl hkD
      have h1:stepAt P ops qs i (stepAt P ops qs k (anyW P ops qs K m ((listed.setIfInBounds i true).setIfInBounds k true))) σ :=
        stepAt_mono (fun s hs=>hs.2 k (ready_mono hk hki)) h
      have h2:stepAt P ops qs k (stepAt P ops qs i (anyW P ops qs K m ((listed.setIfInBounds i true).setIfInBounds k true))) σ:=by
        unfold stepAt at h1 ⊢
        simp only[hi,hok] at h1 ⊢
        exact swap_steps ha hc h1
      refine stepAt_mono (fun s hs=>?_) h2
      refine ih (listed.setIfInBounds k true) s (fun j hj=>?_) (ready_mono hr (Ne.symm hki)) (fun j oj hoj hl hjD=>?_) ?_
      · have hne:k≠j:=fun e=>hkD (by rw[e];exact hj)
        rw[getD_set_ne _ hne];exact hu j hj
      · refine hap j oj hoj ?_ hjD
        by_cases hjk:k=j
        · subst hjk;exact hkl
        · rwa [getD_set_ne _ hjk] at hl
      · rw[Array.setIfInBounds_comm _ _ (Ne.symm hki)] at hs
        exact hs
def depsOf (ops:Array Oper) (i:Nat):List Nat :=
  (List.range ops.size).foldl (fun D j=>if j == i || (match ops[j]? with | some oj=>oj.after.any (fun e=>Region.binds .any e && D.contains e.on) | none=>false) then D++[j] else D) []
def takeOK (ops:Array Oper) (qs:List Nat) (listed:Array Bool) (i:Nat) (D:List Nat):Bool :=
  match ops[i]? with
  | none=>false
  | some o =>
    D.contains i && D.all (fun j=>j == i || match ops[j]? with | some oj=>oj.after.any (fun e=>Region.binds .any e && D.contains e.on) | none=>false) &&
    D.all (fun j=>!listed.getD j true) && o.after.all (fun e=>!Region.binds .any e || listed.getD e.on false) &&
    (List.range ops.size).all fun j=>D.contains j || listed.getD j true || match ops[j]? with | some oj=>o.apart ops oj && compat (clsQ (qs.contains i) o) (clsQ (qs.contains j) oj) | none=>true
theorem take_ok {ops:Array Oper} {qs:List Nat} {K:St→Prop} {i:Nat} {D:List Nat} {fuel:Nat} {listed:Array Bool} (h:takeOK ops qs listed i D=true)
    (hs:stepAt P ops qs i (anyW P ops qs K fuel (listed.setIfInBounds i true)) σ):anyW P ops qs K (fuel+1) listed σ:=by
  unfold takeOK at h
  cases hi:ops[i]? with
  | none=>simp[hi] at h
  | some o =>
    simp only[hi,Bool.and_eq_true,List.all_eq_true,List.contains_iff_mem,Bool.or_eq_true,beq_iff_eq,Bool.not_eq_true'] at h
    obtain ⟨⟨⟨⟨h1,h2⟩,h3⟩,h4⟩,h5⟩:=h
    refine any_take hi D h1 (fun j hj=>?_) fuel listed σ h3 ?_ ?_ hs
    · rcases h2 j hj with h | h
      · exact .inl h
      · right
        split at h
        · rename_i oj hoj
          rw[Array.any_eq_true'] at h
          obtain ⟨e,he,hb⟩:=h
          simp only[Bool.and_eq_true,List.contains_iff_mem] at hb
          exact⟨oj,hoj,e,he,hb.1,hb.2⟩
        · simp at h
    · rw[mem_ready]
      refine⟨h3 i h1,o,hi,fun e he hb=>?_⟩
      rw[Array.all_eq_true'] at h4
      have:=h4 e he
      simpa [hb] using this
    · intro j oj hoj hl hjD
      have hj:j<ops.size:=(Array.getElem?_eq_some_iff.1 hoj).1
      rcases h5 j (List.mem_range.2 hj) with (h | h) | h
      · exact absurd h hjD
      · rw[hl] at h;simp at h
      · simpa [hoj] using h
inductive PT where
  | nil
  | take (i:Nat) (t:PT)
  | both (i:Nat) (t:PT) (j:Nat) (u:PT)
  | three (i:Nat) (t:PT) (j:Nat) (u:PT) (k:Nat) (v:PT)
def PT.ok (ops:Array Oper) (qs:List Nat):PT→Nat→Array Bool→Bool
  | .nil,n,listed=>n == 0 && (Region.ready .any ops listed).isEmpty
  | .take _ _,0,_=>false
  | .take i t,n+1,listed=>takeOK ops qs listed i (depsOf ops i) && t.ok ops qs n (listed.setIfInBounds i true)
  | .both _ _ _ _,0,_=>false
  | .both i t j u,n+1,listed=>(Region.ready .any ops listed == [i,j]) && t.ok ops qs n (listed.setIfInBounds i true) && u.ok ops qs n (listed.setIfInBounds j true)
  | .three _ _ _ _ _ _,0,_=>false
  | .three i t j u k v,n+1,listed=>(Region.ready .any ops listed == [i,j,k]) && t.ok ops qs n (listed.setIfInBounds i true) && u.ok ops qs n (listed.setIfInBounds j true) && v.ok ops qs n (listed.setIfInBounds k true)
def planW (P:Program) (ops:Array Oper) (qs:List Nat):PT→(St→Prop)→St→Prop
  | .nil,K,σ=>K σ
  | .take i t,K,σ=>stepAt P ops qs i (planW P ops qs t K) σ
  | .both i t j u,K,σ=>stepAt P ops qs i (planW P ops qs t K) σ∧stepAt P ops qs j (planW P ops qs u K) σ
  | .three i t j u k v,K,σ=>stepAt P ops qs i (planW P ops qs t K) σ∧stepAt P ops qs j (planW P ops qs u K) σ∧stepAt P ops qs k (planW P ops qs v K) σ
theorem plan_any {ops:Array Oper} {qs:List Nat} {K:St→Prop}:∀ (t:PT) (n:Nat) (listed:Array Bool) (σ:St),t.ok ops qs n listed=true→planW P ops qs t K σ→anyW P ops qs K n listed σ
  | .nil,n,listed,σ,h,hp=>by
    simp only[PT.ok,Bool.and_eq_true,beq_iff_eq,List.isEmpty_iff] at h
    obtain ⟨rfl,h⟩:=h
    exact⟨h,hp⟩
  | .take _ _,0,_,_,h,_=>by simp[PT.ok] at h
  | .take i t,n+1,listed,σ,h,hp=>by
    simp only[PT.ok,Bool.and_eq_true] at h
    exact take_ok h.1 (stepAt_mono (fun s hs=>plan_any t n _ s h.2 hs) hp)
  | .both _ _ _ _,0,_,_,h,_=>by simp[PT.ok] at h
  | .both i t j u,n+1,listed,σ,h,hp=>by
    simp only[PT.ok,Bool.and_eq_true,beq_iff_eq] at h
    obtain ⟨⟨h1,h2⟩,h3⟩:=h
    refine⟨fun e=>by rw[h1] at e;simp at e,fun k hk=>?_⟩
    rw[h1] at hk
    simp only[List.mem_cons,List.not_mem_nil,or_false] at hk
    rcases hk with rfl | rfl
    · exact stepAt_mono (fun s hs=>plan_any t n _ s h2 hs) hp.1
    · exact stepAt_mono (fun s hs=>plan_any u n _ s h3 hs) hp.2
  | .three _ _ _ _ _ _,0,_,_,h,_=>by simp[PT.ok] at h
  | .three i t j u k v,n+1,listed,σ,h,hp=>by
    simp only[PT.ok,Bool.and_eq_true,beq_iff_eq] at h
    obtain ⟨⟨⟨h1,h2⟩,h3⟩,h4⟩:=h
    refine⟨fun e=>by rw[h1] at e;simp at e,fun x hk=>?_⟩
    rw[h1] at hk
    simp only[List.mem_cons,List.not_mem_nil,or_false] at hk
    rcases hk with rfl | rfl | rfl
    · exact stepAt_mono (fun s hs=>plan_any t n _ s h2 hs) hp.1
    · exact stepAt_mono (fun s hs=>plan_any u n _ s h3 hs) hp.2.1
    · exact stepAt_mono (fun s hs=>plan_any v n _ s h4 hs) hp.2.2
theorem W_draw {id:Nat} {ops:Array Oper} {Q:Exit→St→Prop} (qs:List Nat) (t:PT) (hm:P.follows .mixedOrders=true) (hd:dstOK N ops=true) (ht:t.ok ops qs ops.size (Array.replicate ops.size false)=true)
    (h:planW P ops qs t (Q .normal) σ):W P N n0 (.region id ops true) Q σ :=
  W_region_any qs hm hd (plan_any t _ _ σ ht h)
theorem W_draw_k {id:Nat} {ops:Array Oper} {y:Code} {Q:Exit→St→Prop} (qs:List Nat) (t:PT) (hm:P.follows .mixedOrders=true) (hd:dstOK N ops=true) (ht:t.ok ops qs ops.size (Array.replicate ops.size false)=true)
    (h:∀ K:St→Prop,(∀ s,W P N n0 y Q s→K s)→planW P ops qs t K σ):W P N n0 (.seq (.region id ops true) y) Q σ :=
  W_seq (W_draw qs t hm hd ht (h _ (fun _ h=>h)))
theorem planW_nil {ops:Array Oper} {qs:List Nat} {K:St→Prop}:planW P ops qs .nil K σ=K σ:=rfl
theorem planW_take {ops:Array Oper} {qs:List Nat} {i:Nat} {t:PT} {K:St→Prop}:planW P ops qs (.take i t) K σ=stepAt P ops qs i (planW P ops qs t K) σ:=rfl
theorem planW_three {ops:Array Oper} {qs:List Nat} {i j k:Nat} {t u v:PT} {K:St→Prop}:planW P ops qs (.three i t j u k v) K σ=(stepAt P ops qs i (planW P ops qs t K) σ∧stepAt P ops qs j (planW P ops qs u K) σ∧stepAt P ops qs k (planW P ops qs v K) σ):=rfl
theorem planW_both {ops:Array Oper} {qs:List Nat} {i j:Nat} {t u:PT} {K:St→Prop}:planW P ops qs (.both i t j u) K σ=(stepAt P ops qs i (planW P ops qs t K) σ∧stepAt P ops qs j (planW P ops qs u K) σ):=rfl
theorem guardM_tt {q:Bool} {o:Oper} {K:St→Prop}:guardM q P o K true true σ=opGm q P o σ K:=by simp[guardM]
theorem guardM_ff {q:Bool} {o:Oper} {K:St→Prop}:guardM q P o K false false σ=opGm q P o σ K:=by simp[guardM]
theorem guardM_tf {q:Bool} {o:Oper} {K:St→Prop}:guardM q P o K true false σ=K (σ.put o.dst (.lit (.tuple #[]))):=by simp[guardM]
theorem guardM_ft {q:Bool} {o:Oper} {K:St→Prop}:guardM q P o K false true σ=K (σ.put o.dst (.lit (.tuple #[]))):=by simp[guardM]
theorem guardM_split {q:Bool} {o:Oper} {K:St→Prop} {b want:Bool} (h1:b=true→guardM q P o K true want σ) (h2:b=false→guardM q P o K false want σ):guardM q P o K b want σ:=by
  cases b
  · exact h2 rfl
  · exact h1 rfl
def seqP:List Nat→PT
  | []=>.nil
  | i::r=>.take i (seqP r)
end Go.Am

