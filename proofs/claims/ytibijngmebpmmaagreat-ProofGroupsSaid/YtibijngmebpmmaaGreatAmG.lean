import Derived.Test.YtibijngmebpmmaaGreatAmF
import Derived.Laws.StructEq
set_option linter.unusedVariables false
set_option linter.unusedSimpArgs false
namespace Go.Am
variable {P:Program}
def eqTile (P:Program):List Field→Nat→Nat→Bool
  | [],o,n=>o == n
  | f::fs,o,n=>f.offset == o && eqTile P fs (o+P.cellsOf f.type) n
def eqOK (P:Program):Nat→TypeId→Bool
  | 0,_=>false
  | d+1,t =>
    match P.underlying t with
    | some (.int .i64)=>P.cellsOf t == 1
    | some (.struct fs) => (P.info? t).isSome && !P.stoodInHeld t && eqTile P fs.toList 0 (P.cellsOf t) && fs.toList.all fun f => f.name != "_" && eqOK P d f.type
    | _=>false
def valT (P:Program) (t:TypeId) (xs:List Int):Value :=
  match P.underlying t with
  | some (.struct _)=>.agg (xs.map (Value.int .i64)).toArray
  | _=>.int .i64 (xs.getD 0 0)
theorem drop_split {as bs:List Int} {o c:Nat} (h:as.length=bs.length):as.drop o=bs.drop o↔(as.drop o).take c=(bs.drop o).take c∧as.drop (o+c)=bs.drop (o+c):=by
  constructor
  · intro e
    refine⟨by rw[e],?_⟩
    rw[← List.drop_drop,← List.drop_drop,e]
  · rintro ⟨e1,e2⟩
    rw[← List.drop_drop,← List.drop_drop] at e2
    rw[← List.take_append_drop c (as.drop o),← List.take_append_drop c (bs.drop o),e1,e2]
theorem run_partT (w:World) {d:Nat} {t:TypeId} (h:eqOK P d t=true) {as:List Int} {o:Nat} (ho:o+P.cellsOf t≤as.length) :
    (part t (as.map (Value.int .i64)).toArray o).run P w=.ok (valT P t ((as.drop o).take (P.cellsOf t))) w:=by
  cases d with
  | zero=>simp[eqOK] at h
  | succ d =>
    unfold eqOK at h
    cases hu:P.underlying t with
    | none=>simp[hu] at h
    | some k =>
      rw[hu] at h
      cases k<;>try (simp at h;done)
      case int q =>
        cases q<;>try (simp at h;done)
        have hc:P.cellsOf t=1:=by simpa using h
        rw[hc] at ho
        have hx:((as.map (Value.int .i64)).toArray)[o]?=some (.int .i64 (as.getD o 0)):=by
          have:o<as.length:=by omega
          simp[this]
        simp only[part,isAgg,Sem.run_bind,run_underlying hu,Result.andThen_ok,Sem.run_pure,Bool.false_eq_true,if_false,Sem.run_ite,hx]
        have:o<as.length:=by omega
        simp[valT,hu,hc,this]
      case struct fs =>
        simp only[Bool.and_eq_true] at h
        obtain ⟨i,hi⟩:=Option.isSome_iff_exists.1 h.1.1.1
        have hs:∀ w,(sizeOf t).run P w=.ok (P.cellsOf t) w:=fun w=>by
          simp[sizeOf,typeInfo,Program.cellsOf,hi,run_program]
        simp only[part,isAgg,Sem.run_bind,run_underlying hu,Result.andThen_ok,Sem.run_pure,if_true,Sem.run_ite,hs]
        simp only[valT,hu]
        congr 2
        simp[List.map_take,List.map_drop]
theorem run_eqFieldsT {D d:Nat} (ih:∀ t,eqOK P d t=true→∀ (w:World) (as bs:List Int),as.length=P.cellsOf t→bs.length=P.cellsOf t→(Op.equalIn (D+d) t (valT P t as) (valT P t bs)).run P w=.ok (decide (as=bs)) w) {as bs:List Int} (hl:as.length=bs.length) :
    ∀ (fs : List Field) (o : Nat) (w : World), eqTile P fs o as.length = true → (fs.all fun f => f.name != "_" && eqOK P d f.type) = true →
      o+(fs.map fun f=>P.cellsOf f.type).sum=as.length→(Op.eqFields (D+d) (as.map (Value.int .i64)).toArray (bs.map (Value.int .i64)).toArray fs).run P w=.ok (decide (as.drop o=bs.drop o)) w
  | [],o,w,ht,_,hs=>by
    have:o=as.length:=by simpa [eqTile] using ht
    subst this
    have:bs.drop as.length=[]:=List.drop_eq_nil_of_le (by omega)
    simp[Op.eqFields,this]
  | f::fs,o,w,ht,ha,hs=>by
    simp only[eqTile,Bool.and_eq_true,beq_iff_eq] at ht
    obtain ⟨rfl,ht⟩:=ht
    simp only[List.all_cons,Bool.and_eq_true,bne_iff_ne] at ha
    simp only[List.map_cons,List.sum_cons] at hs
    have h1:=run_partT (as:=as) w ha.1.2 (o:=f.offset) (by omega)
    have h2:=run_partT (as:=bs) w ha.1.2 (o:=f.offset) (by omega)
    have h3:=ih f.type ha.1.2 w ((as.drop f.offset).take (P.cellsOf f.type)) ((bs.drop f.offset).take (P.cellsOf f.type)) (by simp;omega) (by simp;omega)
    have h4:=run_eqFieldsT ih hl fs (f.offset+P.cellsOf f.type) w ht ha.2 (by omega)
    simp only[Op.eqFields]
    rw[if_pos ha.1.1]
    simp only[Sem.run_bind,h1,h2,h3,Result.andThen_ok,Sem.run_ite,Sem.run_pure,h4]
    by_cases he:(as.drop f.offset).take (P.cellsOf f.type)=(bs.drop f.offset).take (P.cellsOf f.type)
    · rw[decide_eq_true he]
      simp only[Bool.not_true,Bool.false_eq_true,if_false]
      congr 1
      rw[decide_eq_decide,drop_split (o:=f.offset) (c:=P.cellsOf f.type) hl]
      simp[he]
    · rw[decide_eq_false he]
      simp only[Bool.not_false,if_true]
      congr 1
      rw[eq_comm,decide_eq_false_iff_not,drop_split (o:=f.offset) (c:=P.cellsOf f.type) hl]
      exact fun h=>he h.1
theorem tile_sum:∀ (fs:List Field) (o n:Nat),eqTile P fs o n=true→o+(fs.map fun f=>P.cellsOf f.type).sum=n
  | [],o,n,h=>by simpa [eqTile] using h
  | f::fs,o,n,h=>by
    simp only[eqTile,Bool.and_eq_true,beq_iff_eq] at h
    have:=tile_sum fs _ n h.2
    simp only[List.map_cons,List.sum_cons];omega
theorem eqT_main (D:Nat):∀ (d:Nat) (t:TypeId),eqOK P d t=true→∀ (w:World) (as bs:List Int),as.length=P.cellsOf t→bs.length=P.cellsOf t→(Op.equalIn (D+d) t (valT P t as) (valT P t bs)).run P w=.ok (decide (as=bs)) w
  | 0,t,h=>by simp[eqOK] at h
  | d+1,t,h=>by
    intro w as bs ha hb
    unfold eqOK at h
    cases hu:P.underlying t with
    | none=>simp[hu] at h
    | some k =>
      rw[hu] at h
      cases k<;>try (simp at h;done)
      case int q =>
        cases q<;>try (simp at h;done)
        have hc:P.cellsOf t=1:=by simpa using h
        rw[hc] at ha hb
        match as,bs,ha,hb with
        | [a],[b],_,_ =>
          simp only[valT,hu,List.getD_cons_zero]
          rw[show D+(d+1)=(D+d)+1 from rfl,run_equalIn_int w (D+d) t .i64 .i64 a b hu]
          congr 1
          rw[Bool.eq_iff_iff];simp
      case struct fs =>
        simp only[Bool.and_eq_true,Bool.not_eq_true'] at h
        have hf:P.fieldsOf t=fs:=by simp[Program.fieldsOf,hu]
        simp only[valT,hu]
        rw[show D+(d+1)=(D+d)+1 from rfl,run_equalIn_struct w (D+d) t _ _ (by rw[hf];exact hu) h.1.1.2,hf]
        have:=run_eqFieldsT (D:=D) (eqT_main D d) (as:=as) (bs:=bs) (by omega) fs.toList 0 w (by rw[ha];exact h.1.2) h.2 (by rw[ha];exact tile_sum _ _ _ h.1.2)
        simpa using this
def eqTest (P:Program) (d:Nat) (t:TypeId) (n:Nat):Bool :=
  (match P.underlying t with | some (.struct _)=>true | _=>false) && decide (d≤10000) && eqOK P d t && (P.cellsOf t == n)
theorem EqT.of {t:TypeId} (d:Nat) {n:Nat} (h:eqTest P d t n=true):EqT P t n:=by
  intro w as bs ha hb
  simp only[eqTest,Bool.and_eq_true,decide_eq_true_eq,beq_iff_eq] at h
  obtain ⟨⟨⟨h1,hd⟩,h2⟩,h3⟩:=h
  have:=eqT_main (10000 - d) d t h2 w as bs (by omega) (by omega)
  rw[Nat.sub_add_cancel hd] at this
  cases hu:P.underlying t with
  | none=>rw[hu] at h1;simp at h1
  | some k =>
    cases k<;>rw[hu] at h1<;>try (simp at h1;done)
    simpa only[valT,hu] using this
end Go.Am
namespace Go.Am
variable {P:Program} {N n0:Nat} {σ:St} {Q:Exit→St→Prop}
def isCallO (o:Oper):Bool :=
  match o.op with
  | .call c=>match c.callee with
    | .value _=>true
    | _=>false
  | _=>false
def callsOf (ops:Array Oper):List Nat:=(List.range ops.size).filter fun i=>match ops[i]? with | some o=>isCallO o | none=>false
def opsLA (P:Program) (ops:Array Oper):List Oper→(St→Prop)→St→Prop
  | [],K,σ=>K σ
  | o::r,K,σ=>stepD P ops (isCallO o) o (opsLA P ops r K) σ
theorem opsLA_nil {ops:Array Oper} {K:St→Prop}:opsLA P ops [] K σ=K σ:=by simp only[opsLA]
theorem opsLA_cons {ops:Array Oper} {o:Oper} {r:List Oper} {K:St→Prop}:opsLA P ops (o::r) K σ=stepD P ops (isCallO o) o (opsLA P ops r K) σ:=by simp only[opsLA]
theorem callsOf_contains {ops:Array Oper} {i:Nat} {o:Oper} (h:ops[i]?=some o):(callsOf ops).contains i=isCallO o:=by
  have hi:i<ops.size:=(Array.getElem?_eq_some_iff.1 h).1
  rw[Bool.eq_iff_iff,List.contains_iff_mem]
  simp only[callsOf,List.mem_filter,List.mem_range,hi,true_and,h]
theorem opsLA_opsLQ {ops:Array Oper} {K:St→Prop}:∀ (l:List Oper) (i:Nat) (σ:St),ops.toList.drop i=l→opsLA P ops l K σ→opsLQ P ops (callsOf ops) i l K σ
  | [],i,σ,_,h=>h
  | o::r,i,σ,hl,h=>by
    have hi:ops[i]?=some o:=by
      have:(ops.toList.drop i)[0]?=some o:=by rw[hl];rfl
      simpa using this
    have hr:ops.toList.drop (i+1)=r:=by
      have:=congrArg List.tail hl
      simpa [List.tail_drop] using this
    rw[opsLQ_cons,callsOf_contains hi]
    rw[opsLA_cons] at h
    exact stepD_mono (fun s hs=>opsLA_opsLQ r (i+1) s hr hs) h
def inTextA (ops:Array Oper):Bool:=inTextQ ops (callsOf ops)
theorem W_draw_a {id:Nat} {ops:Array Oper} {y:Code} (hm:P.follows .mixedOrders=true) (hd:dstOK N ops=true) (ht:inTextA ops=true) (h:∀ K:St→Prop,(∀ s,W P N n0 y Q s→K s)→opsLA P ops ops.toList K σ) :
    W P N n0 (.seq (.region id ops true) y) Q σ :=
  W_draw_q (callsOf ops) hm hd ht fun K hK=>opsLA_opsLQ ops.toList 0 σ rfl (h K hK)
theorem W_draw_ae {id:Nat} {ops:Array Oper} (hm:P.follows .mixedOrders=true) (hd:dstOK N ops=true) (ht:inTextA ops=true) (h:∀ K:St→Prop,(∀ s,Q .normal s→K s)→opsLA P ops ops.toList K σ) :
    W P N n0 (.region id ops true) Q σ :=
  W_draw_qe (callsOf ops) hm hd ht fun K hK=>opsLA_opsLQ ops.toList 0 σ rfl (h K hK)
def laterCall:List Oper→Bool
  | []=>false
  | o::r=>isCallO o || laterCall r
def callsB (ops:Array Oper):List Nat:=(List.range ops.size).filter fun i=>match ops[i]? with | some o=>isCallO o && laterCall (ops.toList.drop (i+1)) | none=>false
def opsLB (P:Program) (ops:Array Oper):List Oper→(St→Prop)→St→Prop
  | [],K,σ=>K σ
  | o::r,K,σ=>stepD P ops (isCallO o && laterCall r) o (opsLB P ops r K) σ
theorem opsLB_nil {ops:Array Oper} {K:St→Prop}:opsLB P ops [] K σ=K σ:=by simp only[opsLB]
theorem opsLB_cons {ops:Array Oper} {o:Oper} {r:List Oper} {K:St→Prop}:opsLB P ops (o::r) K σ=stepD P ops (isCallO o && laterCall r) o (opsLB P ops r K) σ:=by simp only[opsLB]
theorem callsB_contains {ops:Array Oper} {i:Nat} {o:Oper} {r:List Oper} (h:ops[i]?=some o) (hr:ops.toList.drop (i+1)=r):(callsB ops).contains i=(isCallO o && laterCall r):=by
  have hi:i<ops.size:=(Array.getElem?_eq_some_iff.1 h).1
  rw[Bool.eq_iff_iff,List.contains_iff_mem]
  simp only[callsB,List.mem_filter,List.mem_range,hi,true_and,h,hr]
theorem opsLB_opsLQ {ops:Array Oper} {K:St→Prop}:∀ (l:List Oper) (i:Nat) (σ:St),ops.toList.drop i=l→opsLB P ops l K σ→opsLQ P ops (callsB ops) i l K σ
  | [],i,σ,_,h=>h
  | o::r,i,σ,hl,h=>by
    have hi:ops[i]?=some o:=by
      have:(ops.toList.drop i)[0]?=some o:=by rw[hl];rfl
      simpa using this
    have hr:ops.toList.drop (i+1)=r:=by
      have:=congrArg List.tail hl
      simpa [List.tail_drop] using this
    rw[opsLQ_cons,callsB_contains hi hr]
    rw[opsLB_cons] at h
    exact stepD_mono (fun s hs=>opsLB_opsLQ r (i+1) s hr hs) h
def inTextB (ops:Array Oper):Bool:=inTextQ ops (callsB ops)
theorem W_draw_b {id:Nat} {ops:Array Oper} {y:Code} (hm:P.follows .mixedOrders=true) (hd:dstOK N ops=true) (ht:inTextB ops=true) (h:∀ K:St→Prop,(∀ s,W P N n0 y Q s→K s)→opsLB P ops ops.toList K σ) :
    W P N n0 (.seq (.region id ops true) y) Q σ :=
  W_draw_q (callsB ops) hm hd ht fun K hK=>opsLB_opsLQ ops.toList 0 σ rfl (h K hK)
theorem W_draw_be {id:Nat} {ops:Array Oper} (hm:P.follows .mixedOrders=true) (hd:dstOK N ops=true) (ht:inTextB ops=true) (h:∀ K:St→Prop,(∀ s,Q .normal s→K s)→opsLB P ops ops.toList K σ) :
    W P N n0 (.region id ops true) Q σ :=
  W_draw_qe (callsB ops) hm hd ht fun K hK=>opsLB_opsLQ ops.toList 0 σ rfl (h K hK)
theorem Holds.empty {f:FuncId} {sz:Nat} {pre post:List AV} {objs objs':List Ob} {res:AV} (h:∀ a cap,Holds P f (pre++.lit (.slice a 0 cap)::post) objs res objs'):Holds P f (pre++.tree sz []::post) objs res objs':=by
  refine⟨(h none 0).1,fun γ hsz hs=>?_⟩
  have hslot:=hs.slots pre.length
  have he:(pre++.tree sz []::post).getD pre.length .undef=.tree sz []:=by simp
  rw[show (⟨fun k=>(pre++AV.tree sz []::post).getD k .undef,objs⟩:St).env pre.length=.tree sz [] from he] at hslot
  obtain ⟨a,cap,hcv⟩ :∃a cap,γ.tmps.getD pre.length Go.undef=.slice a 0 cap:=by
    generalize γ.tmps.getD pre.length Go.undef=cv at hslot
    have:=hslot.tree_inv
    cases this with
    | nil _ cap a=>exact⟨a,cap,rfl⟩
    | tree _ _ b o cap f=>exact⟨_,cap,rfl⟩
  refine (h a cap).2 γ (by simpa using hsz) ⟨fun k=>?_,hs.obs,hs.inj,hs.nz,hs.zlt⟩
  by_cases hk:k=pre.length
  · subst hk
    show RelV objs γ.w γ.Z γ.blk ((pre++.lit (.slice a 0 cap)::post).getD pre.length .undef) _
    rw[show (pre++AV.lit (.slice a 0 cap)::post).getD pre.length .undef=.lit (.slice a 0 cap) by simp,hcv]
    exact .lit _
  · have:=hs.slots k
    show RelV objs γ.w γ.Z γ.blk ((pre++.lit (.slice a 0 cap)::post).getD k .undef) _
    have e:(pre++AV.lit (.slice a 0 cap)::post).getD k .undef=(pre++AV.tree sz []::post).getD k .undef:=by
      simp only[List.getD_eq_getElem?_getD]
      congr 1
      rcases Nat.lt_or_ge k pre.length with h' | h'
      · rw[List.getElem?_append_left h',List.getElem?_append_left h']
      · rw[List.getElem?_append_right h',List.getElem?_append_right h']
        obtain ⟨j,hj⟩ :∃j,k - pre.length=j+1:=⟨k - pre.length - 1,by omega⟩
        rw[hj];simp
    rw[e];exact this
theorem Turns.emptyV (d sz:Nat) {a:Option Addr} {cap:Nat} (h:σ.env d=.lit (.slice a 0 cap)):Turns n0 σ ⟨upd σ.env d (.tree sz []),σ.objs⟩:=by
  intro os γ0 γ _ hs hf
  refine⟨γ,rfl,rfl,⟨fun k=>?_,hs.obs,hs.inj,hs.nz,hs.zlt⟩,hf⟩
  show RelV σ.objs γ.w γ.Z γ.blk (upd σ.env d (.tree sz []) k) _
  by_cases hk:k=d
  · subst hk
    have:=hs.slots k
    rw[h] at this
    rw[upd_same,this.lit_inv]
    exact .frz _ _ (.nil sz cap a)
  · rw[upd,if_neg hk];exact hs.slots k
end Go.Am
namespace Go.Am
theorem litOf_int_e (k:IntKind) (n:Int):litOf (.int k n)=.lit (.int k n):=by first|rfl|(cases b<;>rfl)|(simp only[litOf];done)|(unfold pickV;split<;>simp_all)
theorem litOf_bool_e (b:Bool):litOf (.bool b)=.lit (.bool b):=by first|rfl|(cases b<;>rfl)|(simp only[litOf];done)|(unfold pickV;split<;>simp_all)
theorem litOf_slice_e (a:Option Addr) (n c:Nat):litOf (.slice a n c)=.lit (.slice a n c):=by first|rfl|(cases b<;>rfl)|(simp only[litOf];done)|(unfold pickV;split<;>simp_all)
theorem litOf_str_e (s:ByteArray):litOf (.string s)=.lit (.string s):=by first|rfl|(cases b<;>rfl)|(simp only[litOf];done)|(unfold pickV;split<;>simp_all)
theorem litOf_tup_e (s:Array Value):litOf (.tuple s)=.lit (.tuple s):=by first|rfl|(cases b<;>rfl)|(simp only[litOf];done)|(unfold pickV;split<;>simp_all)
theorem ren_lit_e (ρ:Nat→Nat) (v:Value):ren ρ (.lit v)=.lit v:=by first|rfl|(cases b<;>rfl)|(simp only[litOf];done)|(unfold pickV;split<;>simp_all)
theorem ren_tree_e (ρ:Nat→Nat) (s:Nat) (r:List (List AV)):ren ρ (.tree s r)=.tree s r:=by first|rfl|(cases b<;>rfl)|(simp only[litOf];done)|(unfold pickV;split<;>simp_all)
theorem ren_taddr_e (ρ:Nat→Nat) (r:List AV):ren ρ (.taddr r)=.taddr r:=by first|rfl|(cases b<;>rfl)|(simp only[litOf];done)|(unfold pickV;split<;>simp_all)
theorem ren_undef_e (ρ:Nat→Nat):ren ρ .undef=.undef:=by first|rfl|(cases b<;>rfl)|(simp only[litOf];done)|(unfold pickV;split<;>simp_all)
theorem cells_lit_e (v:Value):cellsOf (.lit v)=[.lit v]:=by first|rfl|(cases b<;>rfl)|(simp only[litOf];done)|(unfold pickV;split<;>simp_all)
theorem cells_tree_e (s:Nat) (r:List (List AV)):cellsOf (.tree s r)=[.tree s r]:=by first|rfl|(cases b<;>rfl)|(simp only[litOf];done)|(unfold pickV;split<;>simp_all)
theorem cells_taddr_e (r:List AV):cellsOf (.taddr r)=[.taddr r]:=by first|rfl|(cases b<;>rfl)|(simp only[litOf];done)|(unfold pickV;split<;>simp_all)
theorem cells_ref_e (a b c d:Nat):cellsOf (.ref a b c d)=[.ref a b c d]:=by first|rfl|(cases b<;>rfl)|(simp only[litOf];done)|(unfold pickV;split<;>simp_all)
theorem cells_ptr_e (a b c:Nat):cellsOf (.ptr a b c)=[.ptr a b c]:=by first|rfl|(cases b<;>rfl)|(simp only[litOf];done)|(unfold pickV;split<;>simp_all)
theorem cells_fn_e (f:FuncId) (l:List AV):cellsOf (.fn f l)=[.fn f l]:=by first|rfl|(cases b<;>rfl)|(simp only[litOf];done)|(unfold pickV;split<;>simp_all)
theorem pick_tt_e (t:Bool) (s:Array Value) (b:AV):pickV t (.lit (.tuple s)) b=if t=true then .lit (.tuple s) else b:=by first|rfl|(cases b<;>rfl)|(simp only[litOf];done)|(unfold pickV;split<;>simp_all)
theorem pick_t2_e (t:Bool) (s:Array Value) (b:AV):pickV t b (.lit (.tuple s))=if t=true then b else .lit (.tuple s):=by first|rfl|(cases b<;>rfl)|(simp only[litOf];done)|(unfold pickV;split<;>simp_all)
theorem pick_ag_e (t:Bool) (s u:List AV):pickV t (.agg s) (.agg u)=if t=true then .agg s else .agg u:=by first|rfl|(cases b<;>rfl)|(simp only[litOf];done)|(unfold pickV;split<;>simp_all)
theorem scal_agg_e (l:List AV):scal (.agg l)=false:=by first|rfl|(cases b<;>rfl)|(simp only[litOf];done)|(unfold pickV;split<;>simp_all)
theorem scal_tup_e (l:List AV):scal (.tup l)=false:=by first|rfl|(cases b<;>rfl)|(simp only[litOf];done)|(unfold pickV;split<;>simp_all)
theorem scal_undef_e  : scal .undef=false:=by first|rfl|(cases b<;>rfl)|(simp only[litOf];done)|(unfold pickV;split<;>simp_all)
theorem one_int_e (k:IntKind) (n:Int):Value.oneCell' (.int k n)=true:=by first|rfl|(cases b<;>rfl)|(simp only[litOf];done)|(unfold pickV;split<;>simp_all)
theorem one_bool_e (b:Bool):Value.oneCell' (.bool b)=true:=by first|rfl|(cases b<;>rfl)|(simp only[litOf];done)|(unfold pickV;split<;>simp_all)
theorem one_slice_e (a:Option Addr) (n c:Nat):Value.oneCell' (.slice a n c)=true:=by first|rfl|(cases b<;>rfl)|(simp only[litOf];done)|(unfold pickV;split<;>simp_all)
theorem one_str_e (s:ByteArray):Value.oneCell' (.string s)=true:=by first|rfl|(cases b<;>rfl)|(simp only[litOf];done)|(unfold pickV;split<;>simp_all)
theorem one_ptr_e (a:Option Addr):Value.oneCell' (.pointer a)=true:=by first|rfl|(cases b<;>rfl)|(simp only[litOf];done)|(unfold pickV;split<;>simp_all)
theorem one_map_e (a:Option Nat):Value.oneCell' (.map a)=true:=by first|rfl|(cases b<;>rfl)|(simp only[litOf];done)|(unfold pickV;split<;>simp_all)
theorem Pc:type_of% @nilK.eq_1∧type_of% @nilK.eq_2∧type_of% @faT.eq_1∧type_of% @faT.eq_2∧type_of% @faK.eq_1∧type_of% @faK.eq_2∧type_of% @iaA.eq_1∧type_of% @iaA.eq_2∧type_of% @iaA.eq_3∧type_of% @callV.eq_1∧type_of% @callVQ.eq_1∧type_of% @intW.eq_1∧type_of% @intW.eq_2∧type_of% @intW.eq_3∧type_of% @intW.eq_4∧type_of% @intW.eq_5∧type_of% @intW.eq_6∧type_of% @intW.eq_7∧type_of% @intW.eq_8∧type_of% @intW.eq_9∧type_of% @intW.eq_10∧type_of% @intW.eq_11∧type_of% @intW.eq_12∧type_of% @intW.eq_13∧type_of% @loadA.eq_1∧type_of% @stepD.eq_1 :=
  ⟨@nilK.eq_1,@nilK.eq_2,@faT.eq_1,@faT.eq_2,@faK.eq_1,@faK.eq_2,@iaA.eq_1,@iaA.eq_2,@iaA.eq_3,@callV.eq_1,@callVQ.eq_1,@intW.eq_1,@intW.eq_2,@intW.eq_3,@intW.eq_4,@intW.eq_5,@intW.eq_6,@intW.eq_7,@intW.eq_8,@intW.eq_9,@intW.eq_10,@intW.eq_11,@intW.eq_12,@intW.eq_13,@loadA.eq_1,@stepD.eq_1⟩
theorem Sc:type_of% @ev.eq_1∧type_of% @ev.eq_2∧type_of% @ev.eq_3∧type_of% @ev.eq_4∧type_of% @litOf.eq_1∧type_of% @St.put.eq_1∧type_of% @St.put.eq_2∧type_of% @evP.eq_1∧type_of% @evP.eq_2∧type_of% @scalP.eq_1∧type_of% @scalP.eq_2∧type_of% @pickV.eq_1∧type_of% @seqP.eq_1∧type_of% @seqP.eq_2∧type_of% @mergeO.eq_1∧type_of% @mergeO.eq_2∧type_of% @ren.eq_1∧type_of% @ren.eq_2∧type_of% @ren.eq_3∧type_of% @ren.eq_4∧type_of% @ren.eq_5∧type_of% @renL.eq_1∧type_of% @renL.eq_2∧type_of% @rho.eq_1∧type_of% @rowOf.eq_1∧type_of% @setRowOf.eq_1∧type_of% @srcRows.eq_1∧type_of% @srcRows.eq_2∧type_of% @dstRows.eq_1∧type_of% @dstRows.eq_2∧type_of% @cellsOf.eq_1∧type_of% @setCells.eq_1∧type_of% @setCells.eq_2∧type_of% @fillA.eq_1∧type_of% @fillA.eq_2∧type_of% @toRows.eq_1∧type_of% @toRows.eq_2∧type_of% @scal.eq_1∧type_of% @scal.eq_2∧type_of% @scal.eq_3∧type_of% @scal.eq_4∧type_of% @scal.eq_5∧type_of% @scal.eq_6∧type_of% @Ty.isAgg.eq_1∧type_of% @Value.oneCell'.eq_1∧type_of% @Value.oneCell'.eq_2∧type_of% @isCallO.eq_1∧type_of% @laterCall.eq_1∧type_of% @laterCall.eq_2∧type_of% @eMdl.eq_1∧type_of% @eOpt.eq_1∧type_of% @eCls.eq_1∧type_of% @ePr.eq_1∧type_of% @eLd.eq_1∧type_of% @eCt.eq_1∧type_of% @eCh.eq_1∧type_of% @intsOf.eq_1∧type_of% @intsOf.eq_2∧type_of% @opsLQ_cons∧type_of% @opsLQ_nil∧type_of% @opsLA_cons∧type_of% @opsLA_nil∧type_of% @opsLB_cons∧type_of% @opsLB_nil∧type_of% @Bool.true_and∧type_of% @Bool.false_and∧type_of% @litOf_int_e∧type_of% @litOf_bool_e∧type_of% @litOf_slice_e∧type_of% @litOf_str_e∧type_of% @litOf_tup_e∧type_of% @ren_lit_e∧type_of% @ren_tree_e∧type_of% @ren_taddr_e∧type_of% @ren_undef_e∧type_of% @cells_lit_e∧type_of% @cells_tree_e∧type_of% @cells_taddr_e∧type_of% @cells_ref_e∧type_of% @cells_ptr_e∧type_of% @cells_fn_e∧type_of% @pick_tt_e∧type_of% @pick_t2_e∧type_of% @pick_ag_e∧type_of% @scal_agg_e∧type_of% @scal_tup_e∧type_of% @scal_undef_e∧type_of% @one_int_e∧type_of% @one_bool_e∧type_of% @one_slice_e∧type_of% @one_str_e∧type_of% @one_ptr_e∧type_of% @one_map_e :=
  ⟨@ev.eq_1,@ev.eq_2,@ev.eq_3,@ev.eq_4,@litOf.eq_1,@St.put.eq_1,@St.put.eq_2,@evP.eq_1,@evP.eq_2,@scalP.eq_1,@scalP.eq_2,@pickV.eq_1,@seqP.eq_1,@seqP.eq_2,@mergeO.eq_1,@mergeO.eq_2,@ren.eq_1,@ren.eq_2,@ren.eq_3,@ren.eq_4,@ren.eq_5,@renL.eq_1,@renL.eq_2,@rho.eq_1,@rowOf.eq_1,@setRowOf.eq_1,@srcRows.eq_1,@srcRows.eq_2,@dstRows.eq_1,@dstRows.eq_2,@cellsOf.eq_1,@setCells.eq_1,@setCells.eq_2,@fillA.eq_1,@fillA.eq_2,@toRows.eq_1,@toRows.eq_2,@scal.eq_1,@scal.eq_2,@scal.eq_3,@scal.eq_4,@scal.eq_5,@scal.eq_6,@Ty.isAgg.eq_1,@Value.oneCell'.eq_1,@Value.oneCell'.eq_2,@isCallO.eq_1,@laterCall.eq_1,@laterCall.eq_2,@eMdl.eq_1,@eOpt.eq_1,@eCls.eq_1,@ePr.eq_1,@eLd.eq_1,@eCt.eq_1,@eCh.eq_1,@intsOf.eq_1,@intsOf.eq_2,@opsLQ_cons,@opsLQ_nil,@opsLA_cons,@opsLA_nil,@opsLB_cons,@opsLB_nil,@Bool.true_and,@Bool.false_and,@litOf_int_e,@litOf_bool_e,@litOf_slice_e,@litOf_str_e,@litOf_tup_e,@ren_lit_e,@ren_tree_e,@ren_taddr_e,@ren_undef_e,@cells_lit_e,@cells_tree_e,@cells_taddr_e,@cells_ref_e,@cells_ptr_e,@cells_fn_e,@pick_tt_e,@pick_t2_e,@pick_ag_e,@scal_agg_e,@scal_tup_e,@scal_undef_e,@one_int_e,@one_bool_e,@one_slice_e,@one_str_e,@one_ptr_e,@one_map_e⟩
theorem Lc:type_of% @ev.eq_1∧type_of% @ev.eq_2∧type_of% @ev.eq_3∧type_of% @ev.eq_4∧type_of% @litOf.eq_1∧type_of% @St.put.eq_1∧type_of% @St.put.eq_2∧type_of% @litOf_int_e∧type_of% @litOf_bool_e∧type_of% @litOf_slice_e∧type_of% @litOf_str_e∧type_of% @litOf_tup_e :=
  ⟨@ev.eq_1,@ev.eq_2,@ev.eq_3,@ev.eq_4,@litOf.eq_1,@St.put.eq_1,@St.put.eq_2,@litOf_int_e,@litOf_bool_e,@litOf_slice_e,@litOf_str_e,@litOf_tup_e⟩
theorem W_at {P:Program} {N n0:Nat} (id:Nat) {ops:Array Oper} {d:Bool} {y:Code} {Q:Exit→St→Prop} {σ:St} (h:W P N n0 (.seq (.region id ops d) y) Q σ):W P N n0 (.seq (.region id ops d) y) Q σ:=h
theorem W_atE {P:Program} {N n0:Nat} (id:Nat) {ops:Array Oper} {d:Bool} {Q:Exit→St→Prop} {σ:St} (h:W P N n0 (.region id ops d) Q σ):W P N n0 (.region id ops d) Q σ:=h
end Go.Am
namespace Go.Am
variable {P:Program} {N n0:Nat} {σ:St}
section
variable {dst:Option Tmp} {tt:TypeId} {p:String} {af:Array Edge} {g:Option (Nat × Bool)} {K:St→Prop} {hh:Nat}
end
theorem W_region_ce {P:Program} {N n0:Nat} {σ:St} {Q:Exit→St→Prop} (n:Nat) {id:Nat} {ops:Array Oper} (hd:dstOK N ops=true) (o:Oper) (ho:ops[n]?=some o)
    (h:∀ K:St→Prop,(∀ s,Q .normal s→K s)→opsL P ops (ops.toList.take n) (callO P o (opsL P ops (ops.toList.drop (n+1)) K)) σ):W P N n0 (.region id ops false) Q σ:=by
  intro os γ0 a w hn hok
  refine wp_region ?_
  have hn':n<ops.size:=(Array.getElem?_eq_some_iff.1 ho).1
  have e:List.range ops.size=List.range' 0 (ops.toList.take n).length++(n::List.range' (n+1) (ops.toList.drop (n+1)).length):=by
    rw[List.range_eq_range',← List.range'_succ]
    have:=List.range'_append (s:=0) (m:=n) (n:=(ops.toList.drop (n+1)).length+1) (step:=1)
    simp only[Nat.zero_add,Nat.one_mul] at this
    rw[show (ops.toList.take n).length=n by simp;omega,this]
    congr 1
    simp;omega
  rw[e]
  refine wpOps_app _ a w ?_
  refine opsL_soundP (dstOK_spec hd) (K:=callO P o (opsL P ops (ops.toList.drop (n+1)) (Q .normal))) (fun σ' a' w' hk hok'=>?_) (ops.toList.take n) 0 σ a w (fun k hk=>?_) (h _ (fun _ h=>h)) hok
  · show wpOps P ops _ _ a' w'
    rw[wpOps_cons]
    unfold wpOp
    simp only[ho]
    have hw:Region.wanted o (yielded ops a'.tmps)=true:=by simp[Region.wanted,hk.1]
    rw[if_pos hw]
    left
    refine callO_sound hk hok' (dstOK_spec hd o (List.mem_of_getElem? (by simpa using ho))) (fun σ2 a2 w2 hk2 hok2=>?_)
    refine opsL_soundP (dstOK_spec hd) (K:=Q .normal) (fun σ3 a3 w3 hk3 hok3=>⟨σ3,hk3,hok3⟩) (ops.toList.drop (n+1)) (n+1) σ2 a2 w2 (fun k hk=>?_) hk2 hok2
    rw[List.getElem?_drop]
    simp
  · simp only[List.length_take,Array.length_toList] at hk
    rw[List.getElem?_take_of_lt (by omega)]
    simp
end Go.Am

