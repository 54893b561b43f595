import Derived.Test.YtafhoboejkcmiaaGreatX03
set_option linter.unusedVariables false
set_option linter.unusedSimpArgs false
set_option linter.unnecessarySimpa false
set_option linter.unusedSectionVars false
set_option maxHeartbeats 64000000
set_option maxRecDepth 20000
namespace Go.Am
variable {P:Program}
def cls:Op→Nat
  | .move _ | .assign _ | .pick .. | .convert .. | .binOp .. | .unOp .. | .makeFunc .. | .makeInterface .. | .typeAssert .. | .field .. | .extract .. | .build ..=>0
  | .call { callee:=.builtin .min,.. } | .call { callee:=.builtin .max,.. }=>0
  | .nilCheck _ | .fieldAddr .. | .indexAddr .. | .slice ..=>1
  | .call { callee:=.builtin .len,.. }=>1
  | .load .. | .lookup ..=>2
  | .alloc _ | .box .. | .makeSlice .. | .buildSlice .. | .makeMap ..=>3
  | .store ..=>4
  | _=>5
def sameK:Ob→Ob→Prop
  | .var _,.var _=>True
  | .arr s _,.arr s' _=>s=s'
  | .mp a L,.mp b M=>a=b∧L=M
  | .gone,.gone=>True
  | _,_=>False
theorem sameK_refl (o:Ob):sameK o o:=by cases o<;>simp[sameK]
def Eff (c:Nat) (a b:List Ob):Prop :=
  if c≤2 then b=a
  else if c=3 then ∀ (id:Nat),id<a.length→b[id]?=a[id]?
  else if c=4 then b.length=a.length∧∀ (id:Nat) o o',a[id]?=some o→b[id]?=some o'→sameK o o'
  else True
theorem eff_id (c:Nat) (h:c≤2) (a:List Ob):Eff c a a:=by simp[Eff,h]
theorem eff_push (a:List Ob) (o:Ob):Eff 3 a (a++[o]):=by
  simp only[Eff];intro id h;exact List.getElem?_append_left h
theorem eff_set (σ:St) (id r:Nat) (row:List AV):Eff 4 σ.objs (setRowOf σ id r row).objs:=by
  simp only[Eff]
  rw[if_neg (by decide),if_neg (by decide),if_pos trivial]
  have key:∀ (x y:Ob),σ.objs[id]?=some x→sameK x y→(σ.objs.set id y).length=σ.objs.length∧∀ (i:Nat) o o',σ.objs[i]?=some o→(σ.objs.set id y)[i]?=some o'→sameK o o':=by
    intro x y hx hxy
    refine⟨by simp,fun i o o' ho ho'=>?_⟩
    rw[List.getElem?_set] at ho'
    split at ho'
    · rename_i e;subst e
      split at ho'
      · simp at ho';subst ho';rw[hx] at ho;simp at ho;subst ho;exact hxy
      · simp at ho'
    · rw[ho] at ho';simp at ho';subst ho';exact sameK_refl o
  unfold setRowOf
  split
  · rename_i cells h;exact key _ _ h trivial
  · rename_i sz rows h;exact key _ _ h rfl
  · exact⟨rfl,fun i o o' ho ho'=>by rw[ho] at ho';simp at ho';subst ho';exact sameK_refl o⟩
def pointsTo:AV→Option Nat
  | .ref id _ _ _=>some id
  | .ptr id _ _=>some id
  | .mref id=>some id
  | _=>none
def ObjC (c:Nat) (a b:Option Ob):Prop :=
  if c=0 then True else if c=1 then ∀ o,a=some o→∃ o',b=some o'∧sameK o o' else ∀ o,a=some o→b=some o
def SmE (c:Nat) (l:List Operand) (σ:St) (e2:Nat→AV) (ob:List Ob):Prop :=
  (∀ x∈l,ev ⟨e2,ob⟩ x=ev σ x)∧(∀ x∈l,∀ id,pointsTo (ev σ x)=some id→ObjC c σ.objs[id]? ob[id]?)
def DetW (P:Program) (o:Oper) (σ:St) (K:St→Prop) (c:Nat) (l:List Operand):Prop :=
  ∃ v os,Eff c σ.objs os∧K ((⟨σ.env,os⟩:St).put o.dst v)∧∀ e2 ob os2 (K2:St→Prop),SmE c l σ e2 ob→(if c≤2 then os2=ob else ob=σ.objs∧os2=os)→K2 ((⟨e2,os2⟩:St).put o.dst v)→opW P o ⟨e2,ob⟩ K2
theorem dA {o:Oper} {σ:St} {K:St→Prop} {c:Nat} {l:List Operand} {v:AV} (hW:K (σ.put o.dst v))
    (h:∀ e2 ob (K2:St→Prop),SmE c l σ e2 ob→K2 ((⟨e2,ob⟩:St).put o.dst v)→opW P o ⟨e2,ob⟩ K2) (hc:c≤2:=by simp[cls]):DetW P o σ K c l :=
  ⟨v,σ.objs,eff_id _ hc _,hW,fun e2 ob os2 K2 hx ho hK2=>h e2 ob K2 hx (by rw[if_pos hc] at ho;subst ho;exact hK2)⟩
theorem dB {o:Oper} {σ:St} {K:St→Prop} {c:Nat} {l:List Operand} {v:AV} {os:List Ob} (hc:3≤c) (he:Eff c σ.objs os) (hW:K ((⟨σ.env,os⟩:St).put o.dst v))
    (h:∀ e2 (_:List Ob) (K2:St→Prop),SmE 0 l σ e2 σ.objs→K2 ((⟨e2,os⟩:St).put o.dst v)→opW P o ⟨e2,σ.objs⟩ K2):DetW P o σ K c l :=
  ⟨v,os,he,hW,fun e2 ob os2 K2 hx ho hK2=>by rw[if_neg (by omega)] at ho;obtain ⟨rfl,rfl⟩:=ho;exact h e2 σ.objs K2 ⟨hx.1,fun _ _ _ _=>by simp[ObjC]⟩ hK2⟩
theorem parts_eq {parts:Array (Nat × Operand)} {σ τ:St} (h:∀ x∈parts.toList.map (·.2),ev τ x=ev σ x) :
    (parts.toList.map fun p=>(p.1,ev τ p.2))=(parts.toList.map fun p=>(p.1,ev σ p.2))∧(parts.toList.all fun p=>(cellsOf (ev τ p.2)).all scal)=(parts.toList.all fun p=>(cellsOf (ev σ p.2)).all scal):=by
  have hp:(parts.toList.map fun p=>(p.1,ev τ p.2))=(parts.toList.map fun p=>(p.1,ev σ p.2)):=List.map_congr_left fun p hp=>by rw[h _ (List.mem_map_of_mem hp)]
  exact⟨hp,by simpa [List.all_map,Function.comp_def] using congrArg (·.all fun q=>(cellsOf q.2).all scal) hp⟩
theorem loadA_det {t:Ty} {cells:List AV} {c:Nat} {K:AV→Prop} (h:loadA t cells c K) :∃v,K v∧∀ K2:AV→Prop,K2 v→loadA t cells c K2:=by
  unfold loadA at h ⊢
  split at h
  · exact⟨_,h.2,fun K2 hK=>by simp_all⟩
  · split at h<;>first|exact h.elim|exact⟨_,h,fun K2 hK=>by simp_all⟩
theorem intW_det {op:BinOp} {k:IntKind} {p q:Int} {K:Value→Prop} (h:intW op k p q K) :∃v,K v∧∀ K2:Value→Prop,K2 v→intW op k p q K2:=by
  unfold intW at h ⊢
  split at h<;>first|exact⟨_,h.2,fun K2 h'=>⟨h.1,h'⟩⟩|exact⟨_,h,fun K2 h=>h⟩|exact h.elim
theorem rowOf_of {σ:St} {e:Nat→AV} {ob:List Ob} {id r:Nat} {row:List AV} (h:∀ o,σ.objs[id]?=some o→ob[id]?=some o) (hr:rowOf σ id r=some row):rowOf ⟨e,ob⟩ id r=some row:=by
  unfold rowOf at hr ⊢
  cases ho:σ.objs[id]?<;>simp_all
theorem mpOf_of {σ:St} {e:Nat→AV} {ob:List Ob} {v:AV} {q:Nat × Nat × List (List Int × AV)} (h:∀ id,v=.mref id→∀ o,σ.objs[id]?=some o→ob[id]?=some o) (hm:mpOf σ v=some q):mpOf ⟨e,ob⟩ v=some q:=by
  unfold mpOf at hm ⊢
  split at hm
  · rename_i id
    split at hm
    · rename_i ag L ho
      have:=h id rfl _ ho
      simp only[this]
      exact hm
    · cases hm
  · cases hm
theorem opW_det {o:Oper} {σ:St} {K:St→Prop} (hW:opW P o σ K):DetW P o σ K (cls o.op) o.op.operands.toList:=by
  obtain ⟨dst,op,type,pos,after,guard⟩:=o
  unfold opW at hW
  cases op
  case call c =>
    obtain ⟨callee,args,argTypes⟩:=c
    cases callee<;>try exact hW.elim
    rename_i b
    cases b<;>try exact hW.elim
    all_goals simp only at hW
    case append =>
      (repeat' split at hW)<;>try exact hW.elim
      rename_i s x t t' hx' ht' _ _ _ _ z pre σ1 sz src hk hz hdst hsrc
      have henv:σ1=⟨σ.env,σ1.objs⟩∧∀ e,dstRows ⟨e,σ.objs⟩ (ty P (ty P t).elem).size (ev σ s)=some (pre,⟨e,σ1.objs⟩):=by
        unfold dstRows at hdst ⊢
        (repeat' split at hdst)<;>simp_all
        all_goals obtain ⟨rfl,rfl⟩:=hdst;simp
      refine dB (os:=σ1.objs++[.arr sz (pre++src)]) (by simp[cls]) trivial (by have:=hW.2;rw[henv.1] at this;exact this) fun e2 ob K2 hx hK2=>?_
      have hs2:srcRows ⟨e2,σ.objs⟩ (ev σ x)=some (sz,src):=hsrc
      unfold opW
      simp[SmE,Op.operands,Call.operands,hx'] at hx
      simp only[hx',ht',hx.1.1,hx.1.2,hk,hz,henv.2,hs2]
      exact⟨hW.1,hK2⟩
    case copy =>
      (repeat' split at hW)<;>try exact hW.elim
      rename_i hx' ht' _ _ id _ _ _ _ src he hsrc _ _ _ ho
      refine dB (by simp[cls]) trivial hW.2 fun e2 ob K2 hx hK2=>?_
      have hs2:srcRows ⟨e2,σ.objs⟩ _=_:=hsrc
      unfold opW
      simp[SmE,Op.operands,Call.operands,hx'] at hx
      simp only[hx',ht',hx.1.1,hx.1.2,he,hs2,ho]
      exact⟨hW.1,hK2⟩
    all_goals (repeat' split at hW)<;>first|exact hW.elim|exact hW.2.elim|refine dA hW ?_|refine dA hW.2 ?_|refine dA hW.2.2 ?_
    all_goals
      intro e2 ob K2 hx hK2
      unfold opW
      simp[SmE,Op.operands,Call.operands,pointsTo,ObjC,cls, *] at hx ⊢
      first|done|(simp_all;done)|(obtain ⟨_,o',_,hk⟩:=hx;cases o'<;>simp_all [sameK];done)
  case load t x =>
    simp only at hW
    obtain ⟨hk,hW⟩:=hW
    (repeat' split at hW)<;>try exact hW.elim
    all_goals
      obtain ⟨v,hK,hl⟩:=loadA_det hW
      refine dA hK fun e2 ob K2 hx hK2=>?_
      unfold opW
      simp[SmE,Op.operands,pointsTo,ObjC,cls, *] at hx
      first|simp only[hx.1,rowOf_of hx.2 ‹rowOf _ _ _=_›]|simp only[hx]
      exact⟨hk,hl _ hK2⟩
  case store t x y =>
    simp only at hW
    obtain ⟨hk,hW⟩:=hW
    (repeat' split at hW)<;>try exact hW.elim
    rename_i id r c he _ row hrow
    have henv:∀ row,setRowOf σ id r row=⟨σ.env,(setRowOf σ id r row).objs⟩∧∀ e,setRowOf ⟨e,σ.objs⟩ id r row=⟨e,(setRowOf σ id r row).objs⟩:=by
      intro row;unfold setRowOf;simp only;split<;>simp_all
    refine dB (by simp[cls]) (eff_set _ _ _ _) (by have:=hW.2;rw[(henv _).1] at this;exact this) fun e2 ob K2 hx hK2=>?_
    have hr2:rowOf ⟨e2,σ.objs⟩ id r=some row:=hrow
    unfold opW
    simp only[hx.1 x (by simp[Op.operands]),hx.1 y (by simp[Op.operands]),he,hr2]
    rw[(henv _).2]
    exact⟨hk,hW.1,hK2⟩
  case build t parts =>
    simp only at hW
    (repeat' split at hW)<;>first|exact hW.elim|refine dA hW.2 ?_
    all_goals
      intro e2 ob K2 hx hK2
      obtain ⟨h1,h2⟩:=parts_eq (parts:=parts) (by simpa [Op.operands] using hx.1)
      unfold opW
      simp only[h1,h2, *]
      simp[hW.1]
  case buildSlice t _ parts =>
    simp only at hW
    (repeat' split at hW)<;>first|exact hW.elim|refine dB (Nat.le_refl 3) (eff_push _ _) hW.2 ?_
    intro e2 ob K2 hx hK2
    obtain ⟨h1,h2⟩:=parts_eq (parts:=parts) (by simpa [Op.operands] using hx.1)
    unfold opW
    simp only[h1,h2, *]
    simp[hW.1]
  case makeFunc fn first captured =>
    simp only at hW
    split at hW<;>first|exact hW.elim|refine dA hW.2 fun e2 ob K2 hx hK2=>?_
    unfold opW
    simp only[List.map_congr_left (l:=captured.toList) (f:=ev ⟨e2,ob⟩) (g:=ev σ) fun y hy=>hx.1 y (by simp only[Op.operands,Array.toList_append,List.mem_append];exact .inr hy)]
    exact⟨hW.1,hK2⟩
  case binOp op t x y yt =>
    simp only at hW
    split at hW
    · rename_i k p k' q he hf
      obtain ⟨hk,hW⟩:=hW
      obtain ⟨v,hK,hl⟩:=intW_det hW
      refine dA hK fun e2 ob K2 hx hK2=>?_
      unfold opW
      simp[SmE,Op.operands,he,hf] at hx
      simp only[hx.1.1,hx.1.2]
      exact⟨hk,hl _ hK2⟩
    all_goals (repeat' split at hW)<;>first|exact hW.elim|exact hW.2.elim|refine dA hW.2 ?_
    all_goals
      intro e2 ob K2 hx hK2
      unfold opW
      simp[SmE,Op.operands, *] at hx ⊢
      first|done|(simp_all;done)
  case slice t x lo hi mx =>
    simp only at hW
    obtain ⟨hk,hke,rfl,hW⟩:=hW
    cases lo<;>cases hi<;>simp only[Option.map_some,Option.map_none] at hW
    all_goals (repeat' split at hW)<;>first|exact hW.elim|exact hW.2.elim|exact hW.2.2.elim|refine dA hW.2 ?_|refine dA hW.2.2 ?_|refine dA hW.2.2.2 ?_
    all_goals
      intro e2 ob K2 hx hK2
      unfold opW
      simp only[Option.some.injEq] at *
      simp[SmE,Op.operands,pointsTo,ObjC,cls, *] at hx ⊢
      first|done|(simp_all;done)|(obtain ⟨_,o',_,hk⟩:=hx;cases o'<;>simp_all [sameK];done)|(obtain ⟨_,⟨o',_,hk⟩,_⟩:=hx;cases o'<;>simp_all [sameK];done)|trace_state
  case makeMap t r =>
    simp only at hW
    obtain ⟨⟨rfl,hk⟩,hK⟩:=hW
    refine dB (Nat.le_refl 3) (eff_push _ _) hK fun e2 ob K2 hx hK2=>?_
    unfold opW
    exact⟨⟨rfl,hk⟩,hK2⟩
  case lookup t x i ok =>
    simp only at hW
    split at hW
    · rename_i ag l id ag' L z hki hmx hzz
      refine dA hW.2 fun e2 ob K2 hx hK2=>?_
      have h1:=hx.1 x (by simp[Op.operands])
      have h2:=hx.1 i (by simp[Op.operands])
      have h3:mpOf ⟨e2,ob⟩ (ev σ x)=some (id,ag',L):=mpOf_of (fun id' hid o ho=>by
        have:=hx.2 x (by simp[Op.operands]) id' (by rw[hid];rfl)
        unfold ObjC at this
        simp[cls] at this
        exact this o ho) hmx
      unfold opW
      simp only[h1,h2,hki,h3,hzz]
      exact⟨hW.1,hK2⟩
    · exact hW.elim
  case mapUpdate t m k x =>
    simp only at hW
    split at hW
    · rename_i hki hmx
      obtain ⟨hc0,hK0⟩:=hW
      refine dB (v:=.undef) (os:=_) (by simp[cls]) trivial hK0 fun e2 ob K2 hx hK2=>?_
      have h1:=hx.1 m (by simp[Op.operands])
      have h2:=hx.1 k (by simp[Op.operands])
      have h3:=hx.1 x (by simp[Op.operands])
      have h4:mpOf ⟨e2,σ.objs⟩ (ev σ m)=_:=hmx
      unfold opW
      simp only[h1,h2,h3,hki,h4]
      exact⟨hc0,hK2⟩
    · exact hW.elim
  case mapEntry t m k =>
    simp only at hW
    split at hW
    · rename_i hki hmx hzz
      obtain ⟨hc0,hK0⟩:=hW
      refine dB (v:=_) (os:=_) (by simp[cls]) trivial hK0 fun e2 ob K2 hx hK2=>?_
      have h1:=hx.1 m (by simp[Op.operands])
      have h2:=hx.1 k (by simp[Op.operands])
      have h4:mpOf ⟨e2,σ.objs⟩ (ev σ m)=_:=hmx
      unfold opW
      simp only[h1,h2,hki,h4,hzz]
      exact⟨hc0,hK2⟩
    · exact hW.elim
  case entryStore t m s x =>
    simp only at hW
    split at hW
    · rename_i hs hmx
      obtain ⟨hc0,hK0⟩:=hW
      refine dB (v:=.undef) (os:=_) (by simp[cls]) trivial hK0 fun e2 ob K2 hx hK2=>?_
      have h1:=hx.1 m (by simp[Op.operands])
      have h2:=hx.1 s (by simp[Op.operands])
      have h3:=hx.1 x (by simp[Op.operands])
      have h4:mpOf ⟨e2,σ.objs⟩ (ev σ m)=_:=hmx
      unfold opW
      simp only[h1,h2,h3,hs,h4]
      exact⟨hc0,hK2⟩
    · exact hW.elim
  all_goals (try simp only at hW);(try exact hW.elim)
  all_goals (repeat' split at hW)<;>first|exact hW.elim|exact hW.2.elim|exact hW.2.2.elim|refine dA hW ?_|refine dA hW.2 ?_|refine dA hW.2.2 ?_|refine dA hW.2.2.2 ?_|refine dB (Nat.le_refl 3) (eff_push _ _) hW.2 ?_|refine dB (Nat.le_refl 3) (eff_push _ _) hW.2.1 ?_
  all_goals
    intro e2 ob K2 hx hK2
    unfold opW
    simp[SmE,Op.operands,pointsTo,ObjC,cls,-List.all_eq_true, *] at hx ⊢
    first|done|(simp_all;done)|(obtain ⟨_,rfl,_⟩:=hW;simp_all;done)|(obtain ⟨_,o',_,hk⟩:=hx;cases o'<;>simp_all [sameK];done)
theorem opW_local {o:Oper} {σ:St} {K:St→Prop} (hW:opW P o σ K) :
    ∃ v os,Eff (cls o.op) σ.objs os∧K ((⟨σ.env,os⟩:St).put o.dst v)∧∀ (e2:Nat→AV) (K2:St→Prop),(∀ x∈o.op.operands.toList,ev ⟨e2,σ.objs⟩ x=ev σ x)→K2 ((⟨e2,os⟩:St).put o.dst v)→opW P o ⟨e2,σ.objs⟩ K2:=by
  obtain ⟨v,os,h1,h2,h3⟩:=opW_det hW
  refine⟨v,os,h1,h2,fun e2 K2 hx hK=>h3 e2 _ os K2 ⟨hx,fun _ _ _ _=>?_⟩ ?_ hK⟩
  · unfold ObjC
    (repeat' split)<;>first|trivial|exact fun o ho=>ho|exact fun o ho=>⟨o,ho,sameK_refl o⟩
  · split
    · rename_i hc;simpa [Eff,hc] using h1
    · exact⟨rfl,rfl⟩
theorem opW_value {o:Oper} {σ:St} {K:St→Prop} (hc:cls o.op≤2) (hW:opW P o σ K) :
    ∃ v,K (σ.put o.dst v)∧∀ (σ2:St) (K2:St→Prop),(∀ x∈o.op.operands.toList,ev σ2 x=ev σ x)→(∀ x∈o.op.operands.toList,∀ id,pointsTo (ev σ x)=some id→ObjC (cls o.op) σ.objs[id]? σ2.objs[id]?) →
      K2 (σ2.put o.dst v)→opW P o σ2 K2:=by
  obtain ⟨v,os,h1,h2,h3⟩:=opW_det hW
  simp only[Eff,hc,if_true] at h1 h3
  subst h1
  exact⟨v,h2,fun σ2 K2 hx ho hK=>h3 σ2.env σ2.objs _ K2 ⟨hx,ho⟩ rfl hK⟩
end Go.Am

