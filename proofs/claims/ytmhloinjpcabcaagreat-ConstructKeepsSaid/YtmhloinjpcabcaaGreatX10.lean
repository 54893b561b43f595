import Derived.Test.YtmhloinjpcabcaaGreatX09
import Derived.Laws.StructEq
set_option linter.unusedVariables false
set_option linter.unusedSimpArgs false
set_option linter.unnecessarySimpa false
set_option linter.unusedSectionVars false
set_option maxHeartbeats 64000000
set_option maxRecDepth 20000
namespace Go.Am
variable {P:Program}
def eqTile (P:Program):List Field→Nat→Nat→Bool
  | [],o,n=>o == n
  | f::fs,o,n=>f.offset == o && eqTile P fs (o+P.cellsOf f.type) n
def eqOK (P:Program):Nat→TypeId→Bool
  | 0,_=>false
  | d+1,t =>
    match P.underlying t with
    | some (.int .i64)=>P.cellsOf t == 1
    | some (.struct fs) => (P.info? t).isSome && !P.stoodInHeld t && eqTile P fs.toList 0 (P.cellsOf t) && fs.toList.all fun f => f.name != "_" && eqOK P d f.type
    | _=>false
def valT (P:Program) (t:TypeId) (xs:List Int):Value :=
  match P.underlying t with
  | some (.struct _)=>.agg (xs.map (Value.int .i64)).toArray
  | _=>.int .i64 (xs.getD 0 0)
theorem drop_split {as bs:List Int} {o c:Nat} (h:as.length=bs.length):as.drop o=bs.drop o↔(as.drop o).take c=(bs.drop o).take c∧as.drop (o+c)=bs.drop (o+c):=by
  constructor
  · intro e
    refine⟨by rw[e],?_⟩
    rw[← List.drop_drop,← List.drop_drop,e]
  · rintro ⟨e1,e2⟩
    rw[← List.drop_drop,← List.drop_drop] at e2
    rw[← List.take_append_drop c (as.drop o),← List.take_append_drop c (bs.drop o),e1,e2]
theorem run_partT (w:World) {d:Nat} {t:TypeId} (h:eqOK P d t=true) {as:List Int} {o:Nat} (ho:o+P.cellsOf t≤as.length) :
    (part t (as.map (Value.int .i64)).toArray o).run P w=.ok (valT P t ((as.drop o).take (P.cellsOf t))) w:=by
  cases d with
  | zero=>simp[eqOK] at h
  | succ d =>
    unfold eqOK at h
    cases hu:P.underlying t with
    | none=>simp[hu] at h
    | some k =>
      rw[hu] at h
      cases k<;>try (simp at h;done)
      case int q =>
        cases q<;>try (simp at h;done)
        have hc:P.cellsOf t=1:=by simpa using h
        rw[hc] at ho
        have hx:((as.map (Value.int .i64)).toArray)[o]?=some (.int .i64 (as.getD o 0)):=by
          have:o<as.length:=by omega
          simp[this]
        simp only[part,isAgg,Sem.run_bind,run_underlying hu,Result.andThen_ok,Sem.run_pure,Bool.false_eq_true,if_false,Sem.run_ite,hx]
        have:o<as.length:=by omega
        simp[valT,hu,hc,this]
      case struct fs =>
        simp only[Bool.and_eq_true] at h
        obtain ⟨i,hi⟩:=Option.isSome_iff_exists.1 h.1.1.1
        have hs:∀ w,(sizeOf t).run P w=.ok (P.cellsOf t) w:=fun w=>by
          simp[sizeOf,typeInfo,Program.cellsOf,hi,run_program]
        simp only[part,isAgg,Sem.run_bind,run_underlying hu,Result.andThen_ok,Sem.run_pure,if_true,Sem.run_ite,hs]
        simp only[valT,hu]
        congr 2
        simp[List.map_take,List.map_drop]
theorem run_eqFieldsT {D d:Nat} (ih:∀ t,eqOK P d t=true→∀ (w:World) (as bs:List Int),as.length=P.cellsOf t→bs.length=P.cellsOf t→(Op.equalIn (D+d) t (valT P t as) (valT P t bs)).run P w=.ok (decide (as=bs)) w) {as bs:List Int} (hl:as.length=bs.length) :
    ∀ (fs : List Field) (o : Nat) (w : World), eqTile P fs o as.length = true → (fs.all fun f => f.name != "_" && eqOK P d f.type) = true →
      o+(fs.map fun f=>P.cellsOf f.type).sum=as.length→(Op.eqFields (D+d) (as.map (Value.int .i64)).toArray (bs.map (Value.int .i64)).toArray fs).run P w=.ok (decide (as.drop o=bs.drop o)) w
  | [],o,w,ht,_,hs=>by
    have:o=as.length:=by simpa [eqTile] using ht
    subst this
    have:bs.drop as.length=[]:=List.drop_eq_nil_of_le (by omega)
    simp[Op.eqFields,this]
  | f::fs,o,w,ht,ha,hs=>by
    simp only[eqTile,Bool.and_eq_true,beq_iff_eq] at ht
    obtain ⟨rfl,ht⟩:=ht
    simp only[List.all_cons,Bool.and_eq_true,bne_iff_ne] at ha
    simp only[List.map_cons,List.sum_cons] at hs
    have h1:=run_partT (as:=as) w ha.1.2 (o:=f.offset) (by omega)
    have h2:=run_partT (as:=bs) w ha.1.2 (o:=f.offset) (by omega)
    have h3:=ih f.type ha.1.2 w ((as.drop f.offset).take (P.cellsOf f.type)) ((bs.drop f.offset).take (P.cellsOf f.type)) (by simp;omega) (by simp;omega)
    have h4:=run_eqFieldsT ih hl fs (f.offset+P.cellsOf f.type) w ht ha.2 (by omega)
    simp only[Op.eqFields]
    rw[if_pos ha.1.1]
    simp only[Sem.run_bind,h1,h2,h3,Result.andThen_ok,Sem.run_ite,Sem.run_pure,h4]
    by_cases he:(as.drop f.offset).take (P.cellsOf f.type)=(bs.drop f.offset).take (P.cellsOf f.type)
    · rw[decide_eq_true he]
      simp only[Bool.not_true,Bool.false_eq_true,if_false]
      congr 1
      rw[decide_eq_decide,drop_split (o:=f.offset) (c:=P.cellsOf f.type) hl]
      simp[he]
    · rw[decide_eq_false he]
      simp only[Bool.not_false,if_true]
      congr 1
      rw[eq_comm,decide_eq_false_iff_not,drop_split (o:=f.offset) (c:=P.cellsOf f.type) hl]
      exact fun h=>he h.1
theorem tile_sum:∀ (fs:List Field) (o n:Nat),eqTile P fs o n=true→o+(fs.map fun f=>P.cellsOf f.type).sum=n
  | [],o,n,h=>by simpa [eqTile] using h
  | f::fs,o,n,h=>by
    simp only[eqTile,Bool.and_eq_true,beq_iff_eq] at h
    have:=tile_sum fs _ n h.2
    simp only[List.map_cons,List.sum_cons];omega
theorem eqT_main (D:Nat):∀ (d:Nat) (t:TypeId),eqOK P d t=true→∀ (w:World) (as bs:List Int),as.length=P.cellsOf t→bs.length=P.cellsOf t→(Op.equalIn (D+d) t (valT P t as) (valT P t bs)).run P w=.ok (decide (as=bs)) w
  | 0,t,h=>by simp[eqOK] at h
  | d+1,t,h=>by
    intro w as bs ha hb
    unfold eqOK at h
    cases hu:P.underlying t with
    | none=>simp[hu] at h
    | some k =>
      rw[hu] at h
      cases k<;>try (simp at h;done)
      case int q =>
        cases q<;>try (simp at h;done)
        have hc:P.cellsOf t=1:=by simpa using h
        rw[hc] at ha hb
        match as,bs,ha,hb with
        | [a],[b],_,_ =>
          simp only[valT,hu,List.getD_cons_zero]
          rw[show D+(d+1)=(D+d)+1 from rfl,run_equalIn_int w (D+d) t .i64 .i64 a b hu]
          congr 1
          rw[Bool.eq_iff_iff];simp
      case struct fs =>
        simp only[Bool.and_eq_true,Bool.not_eq_true'] at h
        have hf:P.fieldsOf t=fs:=by simp[Program.fieldsOf,hu]
        simp only[valT,hu]
        rw[show D+(d+1)=(D+d)+1 from rfl,run_equalIn_struct w (D+d) t _ _ (by rw[hf];exact hu) h.1.1.2,hf]
        have:=run_eqFieldsT (D:=D) (eqT_main D d) (as:=as) (bs:=bs) (by omega) fs.toList 0 w (by rw[ha];exact h.1.2) h.2 (by rw[ha];exact tile_sum _ _ _ h.1.2)
        simpa using this
def eqTest (P:Program) (d:Nat) (t:TypeId) (n:Nat):Bool :=
  (match P.underlying t with | some (.struct _)=>true | _=>false) && decide (d≤10000) && eqOK P d t && (P.cellsOf t == n)
theorem EqT.of {t:TypeId} (d:Nat) {n:Nat} (h:eqTest P d t n=true):EqT P t n:=by
  intro w as bs ha hb
  simp only[eqTest,Bool.and_eq_true,decide_eq_true_eq,beq_iff_eq] at h
  obtain ⟨⟨⟨h1,hd⟩,h2⟩,h3⟩:=h
  have:=eqT_main (10000 - d) d t h2 w as bs (by omega) (by omega)
  rw[Nat.sub_add_cancel hd] at this
  cases hu:P.underlying t with
  | none=>rw[hu] at h1;simp at h1
  | some k =>
    cases k<;>rw[hu] at h1<;>try (simp at h1;done)
    simpa only[valT,hu] using this
end Go.Am
namespace Go.Am
variable {P:Program} {N n0:Nat} {σ:St} {Q:Exit→St→Prop}
def isCallO (o:Oper):Bool :=
  match o.op with
  | .call c=>match c.callee with
    | .value _=>true
    | _=>false
  | _=>false
def callsOf (ops:Array Oper):List Nat:=(List.range ops.size).filter fun i=>match ops[i]? with | some o=>isCallO o | none=>false
def opsLA (P:Program) (ops:Array Oper):List Oper→(St→Prop)→St→Prop
  | [],K,σ=>K σ
  | o::r,K,σ=>stepD P ops (isCallO o) o (opsLA P ops r K) σ
theorem opsLA_nil {ops:Array Oper} {K:St→Prop}:opsLA P ops [] K σ=K σ:=by simp only[opsLA]
theorem opsLA_cons {ops:Array Oper} {o:Oper} {r:List Oper} {K:St→Prop}:opsLA P ops (o::r) K σ=stepD P ops (isCallO o) o (opsLA P ops r K) σ:=by simp only[opsLA]
theorem callsOf_contains {ops:Array Oper} {i:Nat} {o:Oper} (h:ops[i]?=some o):(callsOf ops).contains i=isCallO o:=by
  have hi:i<ops.size:=(Array.getElem?_eq_some_iff.1 h).1
  rw[Bool.eq_iff_iff,List.contains_iff_mem]
  simp only[callsOf,List.mem_filter,List.mem_range,hi,true_and,h]
theorem opsLA_opsLQ {ops:Array Oper} {K:St→Prop}:∀ (l:List Oper) (i:Nat) (σ:St),ops.toList.drop i=l→opsLA P ops l K σ→opsLQ P ops (callsOf ops) i l K σ
  | [],i,σ,_,h=>h
  | o::r,i,σ,hl,h=>by
    have hi:ops[i]?=some o:=by
      have:(ops.toList.drop i)[0]?=some o:=by rw[hl];rfl
      simpa using this
    have hr:ops.toList.drop (i+1)=r:=by
      have:=congrArg List.tail hl
      simpa [List.tail_drop] using this
    rw[opsLQ_cons,callsOf_contains hi]
    rw[opsLA_cons] at h
    exact stepD_mono (fun s hs=>opsLA_opsLQ r (i+1) s hr hs) h
def inTextA (ops:Array Oper):Bool:=inTextQ ops (callsOf ops)
theorem W_draw_a {id:Nat} {ops:Array Oper} {y:Code} (hm:P.follows .mixedOrders=true) (hd:dstOK N ops=true) (ht:inTextA ops=true) (h:∀ K:St→Prop,(∀ s,W P N n0 y Q s→K s)→opsLA P ops ops.toList K σ) :
    W P N n0 (.seq (.region id ops true) y) Q σ :=
  W_draw_q (callsOf ops) hm hd ht fun K hK=>opsLA_opsLQ ops.toList 0 σ rfl (h K hK)
theorem W_draw_ae {id:Nat} {ops:Array Oper} (hm:P.follows .mixedOrders=true) (hd:dstOK N ops=true) (ht:inTextA ops=true) (h:∀ K:St→Prop,(∀ s,Q .normal s→K s)→opsLA P ops ops.toList K σ) :
    W P N n0 (.region id ops true) Q σ :=
  W_draw_qe (callsOf ops) hm hd ht fun K hK=>opsLA_opsLQ ops.toList 0 σ rfl (h K hK)
def laterCall:List Oper→Bool
  | []=>false
  | o::r=>isCallO o || laterCall r
def callsB (ops:Array Oper):List Nat:=(List.range ops.size).filter fun i=>match ops[i]? with | some o=>isCallO o && laterCall (ops.toList.drop (i+1)) | none=>false
def opsLB (P:Program) (ops:Array Oper):List Oper→(St→Prop)→St→Prop
  | [],K,σ=>K σ
  | o::r,K,σ=>stepD P ops (isCallO o && laterCall r) o (opsLB P ops r K) σ
theorem opsLB_nil {ops:Array Oper} {K:St→Prop}:opsLB P ops [] K σ=K σ:=by simp only[opsLB]
theorem opsLB_cons {ops:Array Oper} {o:Oper} {r:List Oper} {K:St→Prop}:opsLB P ops (o::r) K σ=stepD P ops (isCallO o && laterCall r) o (opsLB P ops r K) σ:=by simp only[opsLB]
theorem callsB_contains {ops:Array Oper} {i:Nat} {o:Oper} {r:List Oper} (h:ops[i]?=some o) (hr:ops.toList.drop (i+1)=r):(callsB ops).contains i=(isCallO o && laterCall r):=by
  have hi:i<ops.size:=(Array.getElem?_eq_some_iff.1 h).1
  rw[Bool.eq_iff_iff,List.contains_iff_mem]
  simp only[callsB,List.mem_filter,List.mem_range,hi,true_and,h,hr]
theorem opsLB_opsLQ {ops:Array Oper} {K:St→Prop}:∀ (l:List Oper) (i:Nat) (σ:St),ops.toList.drop i=l→opsLB P ops l K σ→opsLQ P ops (callsB ops) i l K σ
  | [],i,σ,_,h=>h
  | o::r,i,σ,hl,h=>by
    have hi:ops[i]?=some o:=by
      have:(ops.toList.drop i)[0]?=some o:=by rw[hl];rfl
      simpa using this
    have hr:ops.toList.drop (i+1)=r:=by
      have:=congrArg List.tail hl
      simpa [List.tail_drop] using this
    rw[opsLQ_cons,callsB_contains hi hr]
    rw[opsLB_cons] at h
    exact stepD_mono (fun s hs=>opsLB_opsLQ r (i+1) s hr hs) h
def inTextB (ops:Array Oper):Bool:=inTextQ ops (callsB ops)
theorem W_draw_b {id:Nat} {ops:Array Oper} {y:Code} (hm:P.follows .mixedOrders=true) (hd:dstOK N ops=true) (ht:inTextB ops=true) (h:∀ K:St→Prop,(∀ s,W P N n0 y Q s→K s)→opsLB P ops ops.toList K σ) :
    W P N n0 (.seq (.region id ops true) y) Q σ :=
  W_draw_q (callsB ops) hm hd ht fun K hK=>opsLB_opsLQ ops.toList 0 σ rfl (h K hK)
theorem W_draw_be {id:Nat} {ops:Array Oper} (hm:P.follows .mixedOrders=true) (hd:dstOK N ops=true) (ht:inTextB ops=true) (h:∀ K:St→Prop,(∀ s,Q .normal s→K s)→opsLB P ops ops.toList K σ) :
    W P N n0 (.region id ops true) Q σ :=
  W_draw_qe (callsB ops) hm hd ht fun K hK=>opsLB_opsLQ ops.toList 0 σ rfl (h K hK)
end Go.Am
namespace Go.Am
theorem litOf_int_e (k:IntKind) (n:Int):litOf (.int k n)=.lit (.int k n):=by first|rfl|(cases b<;>rfl)|(simp only[litOf];done)|(unfold pickV;split<;>simp_all)
theorem litOf_bool_e (b:Bool):litOf (.bool b)=.lit (.bool b):=by first|rfl|(cases b<;>rfl)|(simp only[litOf];done)|(unfold pickV;split<;>simp_all)
theorem litOf_slice_e (a:Option Addr) (n c:Nat):litOf (.slice a n c)=.lit (.slice a n c):=by first|rfl|(cases b<;>rfl)|(simp only[litOf];done)|(unfold pickV;split<;>simp_all)
theorem litOf_str_e (s:ByteArray):litOf (.string s)=.lit (.string s):=by first|rfl|(cases b<;>rfl)|(simp only[litOf];done)|(unfold pickV;split<;>simp_all)
theorem litOf_tup_e (s:Array Value):litOf (.tuple s)=.lit (.tuple s):=by first|rfl|(cases b<;>rfl)|(simp only[litOf];done)|(unfold pickV;split<;>simp_all)
theorem ren_lit_e (ρ:Nat→Nat) (v:Value):ren ρ (.lit v)=.lit v:=by first|rfl|(cases b<;>rfl)|(simp only[litOf];done)|(unfold pickV;split<;>simp_all)
theorem ren_tree_e (ρ:Nat→Nat) (s:Nat) (r:List (List AV)):ren ρ (.tree s r)=.tree s r:=by first|rfl|(cases b<;>rfl)|(simp only[litOf];done)|(unfold pickV;split<;>simp_all)
theorem ren_taddr_e (ρ:Nat→Nat) (r:List AV):ren ρ (.taddr r)=.taddr r:=by first|rfl|(cases b<;>rfl)|(simp only[litOf];done)|(unfold pickV;split<;>simp_all)
theorem ren_undef_e (ρ:Nat→Nat):ren ρ .undef=.undef:=by first|rfl|(cases b<;>rfl)|(simp only[litOf];done)|(unfold pickV;split<;>simp_all)
theorem cells_lit_e (v:Value):cellsOf (.lit v)=[.lit v]:=by first|rfl|(cases b<;>rfl)|(simp only[litOf];done)|(unfold pickV;split<;>simp_all)
theorem cells_tree_e (s:Nat) (r:List (List AV)):cellsOf (.tree s r)=[.tree s r]:=by first|rfl|(cases b<;>rfl)|(simp only[litOf];done)|(unfold pickV;split<;>simp_all)
theorem cells_taddr_e (r:List AV):cellsOf (.taddr r)=[.taddr r]:=by first|rfl|(cases b<;>rfl)|(simp only[litOf];done)|(unfold pickV;split<;>simp_all)
theorem cells_ref_e (a b c d:Nat):cellsOf (.ref a b c d)=[.ref a b c d]:=by first|rfl|(cases b<;>rfl)|(simp only[litOf];done)|(unfold pickV;split<;>simp_all)
theorem cells_ptr_e (a b c:Nat):cellsOf (.ptr a b c)=[.ptr a b c]:=by first|rfl|(cases b<;>rfl)|(simp only[litOf];done)|(unfold pickV;split<;>simp_all)
theorem cells_mref_e (id:Nat):cellsOf (.mref id)=[.mref id]:=rfl
theorem cells_ifc_e (t:TypeId) (v:AV):cellsOf (.ifc t v)=[.ifc t v]:=rfl
theorem cells_fn_e (f:FuncId) (l:List AV):cellsOf (.fn f l)=[.fn f l]:=by first|rfl|(cases b<;>rfl)|(simp only[litOf];done)|(unfold pickV;split<;>simp_all)
theorem pick_tt_e (t:Bool) (s:Array Value) (b:AV):pickV t (.lit (.tuple s)) b=if t=true then .lit (.tuple s) else b:=by first|rfl|(cases b<;>rfl)|(simp only[litOf];done)|(unfold pickV;split<;>simp_all)
theorem pick_t2_e (t:Bool) (s:Array Value) (b:AV):pickV t b (.lit (.tuple s))=if t=true then b else .lit (.tuple s):=by first|rfl|(cases b<;>rfl)|(simp only[litOf];done)|(unfold pickV;split<;>simp_all)
theorem pick_ag_e (t:Bool) (s u:List AV):pickV t (.agg s) (.agg u)=if t=true then .agg s else .agg u:=by first|rfl|(cases b<;>rfl)|(simp only[litOf];done)|(unfold pickV;split<;>simp_all)
theorem scal_agg_e (l:List AV):scal (.agg l)=false:=by first|rfl|(cases b<;>rfl)|(simp only[litOf];done)|(unfold pickV;split<;>simp_all)
theorem scal_tup_e (l:List AV):scal (.tup l)=false:=by first|rfl|(cases b<;>rfl)|(simp only[litOf];done)|(unfold pickV;split<;>simp_all)
theorem scal_undef_e  : scal .undef=false:=by first|rfl|(cases b<;>rfl)|(simp only[litOf];done)|(unfold pickV;split<;>simp_all)
theorem one_int_e (k:IntKind) (n:Int):Value.oneCell' (.int k n)=true:=by first|rfl|(cases b<;>rfl)|(simp only[litOf];done)|(unfold pickV;split<;>simp_all)
theorem one_bool_e (b:Bool):Value.oneCell' (.bool b)=true:=by first|rfl|(cases b<;>rfl)|(simp only[litOf];done)|(unfold pickV;split<;>simp_all)
theorem one_slice_e (a:Option Addr) (n c:Nat):Value.oneCell' (.slice a n c)=true:=by first|rfl|(cases b<;>rfl)|(simp only[litOf];done)|(unfold pickV;split<;>simp_all)
theorem one_str_e (s:ByteArray):Value.oneCell' (.string s)=true:=by first|rfl|(cases b<;>rfl)|(simp only[litOf];done)|(unfold pickV;split<;>simp_all)
theorem one_ptr_e (a:Option Addr):Value.oneCell' (.pointer a)=true:=by first|rfl|(cases b<;>rfl)|(simp only[litOf];done)|(unfold pickV;split<;>simp_all)
theorem one_map_e (a:Option Nat):Value.oneCell' (.map a)=true:=by first|rfl|(cases b<;>rfl)|(simp only[litOf];done)|(unfold pickV;split<;>simp_all)
theorem Pc:type_of% @nilK.eq_1∧type_of% @nilK.eq_2∧type_of% @faT.eq_1∧type_of% @faT.eq_2∧type_of% @faK.eq_1∧type_of% @faK.eq_2∧type_of% @iaA.eq_1∧type_of% @iaA.eq_2∧type_of% @iaA.eq_3∧type_of% @callV.eq_1∧type_of% @callVQ.eq_1∧type_of% @intW.eq_1∧type_of% @intW.eq_2∧type_of% @intW.eq_3∧type_of% @intW.eq_4∧type_of% @intW.eq_5∧type_of% @intW.eq_6∧type_of% @intW.eq_7∧type_of% @intW.eq_8∧type_of% @intW.eq_9∧type_of% @intW.eq_10∧type_of% @intW.eq_11∧type_of% @intW.eq_12∧type_of% @intW.eq_13∧type_of% @loadA.eq_1∧type_of% @stepD.eq_1 :=
  ⟨@nilK.eq_1,@nilK.eq_2,@faT.eq_1,@faT.eq_2,@faK.eq_1,@faK.eq_2,@iaA.eq_1,@iaA.eq_2,@iaA.eq_3,@callV.eq_1,@callVQ.eq_1,@intW.eq_1,@intW.eq_2,@intW.eq_3,@intW.eq_4,@intW.eq_5,@intW.eq_6,@intW.eq_7,@intW.eq_8,@intW.eq_9,@intW.eq_10,@intW.eq_11,@intW.eq_12,@intW.eq_13,@loadA.eq_1,@stepD.eq_1⟩
theorem Sc:type_of% @ev.eq_1∧type_of% @ev.eq_2∧type_of% @ev.eq_3∧type_of% @ev.eq_4∧type_of% @litOf.eq_1∧type_of% @St.put.eq_1∧type_of% @St.put.eq_2∧type_of% @evP.eq_1∧type_of% @evP.eq_2∧type_of% @scalP.eq_1∧type_of% @scalP.eq_2∧type_of% @pickV.eq_1∧type_of% @seqP.eq_1∧type_of% @seqP.eq_2∧type_of% @mergeO.eq_1∧type_of% @mergeO.eq_2∧type_of% @ren.eq_1∧type_of% @ren.eq_2∧type_of% @ren.eq_3∧type_of% @ren.eq_4∧type_of% @ren.eq_5∧type_of% @ren.eq_6∧type_of% @renL.eq_1∧type_of% @renL.eq_2∧type_of% @rho.eq_1∧type_of% @rowOf.eq_1∧type_of% @setRowOf.eq_1∧type_of% @srcRows.eq_1∧type_of% @srcRows.eq_2∧type_of% @dstRows.eq_1∧type_of% @dstRows.eq_2∧type_of% @cellsOf.eq_1∧type_of% @setCells.eq_1∧type_of% @setCells.eq_2∧type_of% @fillA.eq_1∧type_of% @fillA.eq_2∧type_of% @toRows.eq_1∧type_of% @toRows.eq_2∧type_of% @scal.eq_1∧type_of% @scal.eq_2∧type_of% @scal.eq_3∧type_of% @scal.eq_4∧type_of% @scal.eq_5∧type_of% @scal.eq_6∧type_of% @Ty.isAgg.eq_1∧type_of% @Value.oneCell'.eq_1∧type_of% @Value.oneCell'.eq_2∧type_of% @isCallO.eq_1∧type_of% @laterCall.eq_1∧type_of% @laterCall.eq_2∧type_of% @eMdl.eq_1∧type_of% @eOpt.eq_1∧type_of% @eCls.eq_1∧type_of% @ePr.eq_1∧type_of% @eLd.eq_1∧type_of% @eCt.eq_1∧type_of% @eCh.eq_1∧type_of% @intsOf.eq_1∧type_of% @intsOf.eq_2∧type_of% @opsLQ_cons∧type_of% @opsLQ_nil∧type_of% @opsLA_cons∧type_of% @opsLA_nil∧type_of% @opsLB_cons∧type_of% @opsLB_nil∧type_of% @Bool.true_and∧type_of% @Bool.false_and∧type_of% @litOf_int_e∧type_of% @litOf_bool_e∧type_of% @litOf_slice_e∧type_of% @litOf_str_e∧type_of% @litOf_tup_e∧type_of% @ren_lit_e∧type_of% @ren_tree_e∧type_of% @ren_taddr_e∧type_of% @ren_undef_e∧type_of% @cells_lit_e∧type_of% @cells_tree_e∧type_of% @cells_taddr_e∧type_of% @cells_ref_e∧type_of% @cells_ptr_e∧type_of% @cells_fn_e∧type_of% @pick_tt_e∧type_of% @pick_t2_e∧type_of% @pick_ag_e∧type_of% @scal_agg_e∧type_of% @scal_tup_e∧type_of% @scal_undef_e∧type_of% @one_int_e∧type_of% @one_bool_e∧type_of% @one_slice_e∧type_of% @one_str_e∧type_of% @one_ptr_e∧type_of% @one_map_e∧type_of% @scal.eq_7∧type_of% @cells_ifc_e∧type_of% @opG_invoke∧type_of% @opG_makeInterface∧type_of% @opG_typeAssert∧type_of% @invV.eq_1∧type_of% @recvK.eq_1∧type_of% @recvK.eq_2∧type_of% @ren.eq_7∧type_of% @scal.eq_8∧type_of% @cells_mref_e∧type_of% @opG_makeMap∧type_of% @opG_lookup∧type_of% @opG_mapUpdate∧type_of% @opG_index∧type_of% @opG_mapEntry∧type_of% @opG_entryStore∧type_of% @liveO_mp∧type_of% @mpOf.eq_1∧type_of% @keyOf.eq_1∧type_of% @keyOf.eq_2∧type_of% @kLen.eq_1 :=
  ⟨@ev.eq_1,@ev.eq_2,@ev.eq_3,@ev.eq_4,@litOf.eq_1,@St.put.eq_1,@St.put.eq_2,@evP.eq_1,@evP.eq_2,@scalP.eq_1,@scalP.eq_2,@pickV.eq_1,@seqP.eq_1,@seqP.eq_2,@mergeO.eq_1,@mergeO.eq_2,@ren.eq_1,@ren.eq_2,@ren.eq_3,@ren.eq_4,@ren.eq_5,@ren.eq_6,@renL.eq_1,@renL.eq_2,@rho.eq_1,@rowOf.eq_1,@setRowOf.eq_1,@srcRows.eq_1,@srcRows.eq_2,@dstRows.eq_1,@dstRows.eq_2,@cellsOf.eq_1,@setCells.eq_1,@setCells.eq_2,@fillA.eq_1,@fillA.eq_2,@toRows.eq_1,@toRows.eq_2,@scal.eq_1,@scal.eq_2,@scal.eq_3,@scal.eq_4,@scal.eq_5,@scal.eq_6,@Ty.isAgg.eq_1,@Value.oneCell'.eq_1,@Value.oneCell'.eq_2,@isCallO.eq_1,@laterCall.eq_1,@laterCall.eq_2,@eMdl.eq_1,@eOpt.eq_1,@eCls.eq_1,@ePr.eq_1,@eLd.eq_1,@eCt.eq_1,@eCh.eq_1,@intsOf.eq_1,@intsOf.eq_2,@opsLQ_cons,@opsLQ_nil,@opsLA_cons,@opsLA_nil,@opsLB_cons,@opsLB_nil,@Bool.true_and,@Bool.false_and,@litOf_int_e,@litOf_bool_e,@litOf_slice_e,@litOf_str_e,@litOf_tup_e,@ren_lit_e,@ren_tree_e,@ren_taddr_e,@ren_undef_e,@cells_lit_e,@cells_tree_e,@cells_taddr_e,@cells_ref_e,@cells_ptr_e,@cells_fn_e,@pick_tt_e,@pick_t2_e,@pick_ag_e,@scal_agg_e,@scal_tup_e,@scal_undef_e,@one_int_e,@one_bool_e,@one_slice_e,@one_str_e,@one_ptr_e,@one_map_e,@scal.eq_7,@cells_ifc_e,@opG_invoke,@opG_makeInterface,@opG_typeAssert,@invV.eq_1,@recvK.eq_1,@recvK.eq_2,@ren.eq_7,@scal.eq_8,@cells_mref_e,@opG_makeMap,@opG_lookup,@opG_mapUpdate,@opG_index,@opG_mapEntry,@opG_entryStore,@liveO_mp,@mpOf.eq_1,@keyOf.eq_1,@keyOf.eq_2,@kLen.eq_1⟩
theorem Lc:type_of% @ev.eq_1∧type_of% @ev.eq_2∧type_of% @ev.eq_3∧type_of% @ev.eq_4∧type_of% @litOf.eq_1∧type_of% @St.put.eq_1∧type_of% @St.put.eq_2∧type_of% @litOf_int_e∧type_of% @litOf_bool_e∧type_of% @litOf_slice_e∧type_of% @litOf_str_e∧type_of% @litOf_tup_e :=
  ⟨@ev.eq_1,@ev.eq_2,@ev.eq_3,@ev.eq_4,@litOf.eq_1,@St.put.eq_1,@St.put.eq_2,@litOf_int_e,@litOf_bool_e,@litOf_slice_e,@litOf_str_e,@litOf_tup_e⟩
theorem W_at {P:Program} {N n0:Nat} (id:Nat) {ops:Array Oper} {d:Bool} {y:Code} {Q:Exit→St→Prop} {σ:St} (h:W P N n0 (.seq (.region id ops d) y) Q σ):W P N n0 (.seq (.region id ops d) y) Q σ:=h
theorem W_atE {P:Program} {N n0:Nat} (id:Nat) {ops:Array Oper} {d:Bool} {Q:Exit→St→Prop} {σ:St} (h:W P N n0 (.region id ops d) Q σ):W P N n0 (.region id ops d) Q σ:=h
end Go.Am
namespace Go.Am
variable {P:Program} {N n0:Nat} {σ:St}
def noRefO:Ob→Bool
  | .gone=>false
  | .var cs=>noRefL cs
  | .arr _ rows=>rows.all noRefL
  | .mp _ _=>false
theorem renO_id' {ρ:Nat→Nat} {o:Ob} (h:noRefO o=true):renO ρ o=o:=by
  cases o with
  | gone=>simp[noRefO] at h
  | var cs =>
    have:=renL_noRef ρ cs h
    rw[renL_eq] at this
    simp[renO,this]
  | arr sz rows=>exact renO_noRef (by simpa [noRefO,List.all_eq_true] using h)
  | mp ag L=>simp[noRefO] at h
def ArgD (hd:Nat) (c a:AV):Prop:=(a=c∧noRef c=true)∨(c=.ptr 0 0 0∧a=.ptr hd 0 0)
def callD (P:Program) (hd:Nat) (g:FuncId) (args:List AV) (dst:Option Tmp) (K:St→Prop) (σ:St):Prop :=
  ∃ cargs D res D',Holds P g cargs [D] res [D']∧noRefO D=true∧noRefO D'=true∧σ.objs[hd]?=some D∧noRef res=true∧ArgsR (ArgD hd) cargs args∧K ((⟨σ.env,σ.objs.set hd D'⟩:St).put dst res)
theorem callD_callK {hd:Nat} {g:FuncId} {args:List AV} {dst:Option Tmp} {K:St→Prop} (h:callD P hd g args dst K σ):callK P g args dst K σ:=by
  obtain ⟨cargs,D,res,D',h1,h2,h3,h4,h5,h6,h7⟩:=h
  obtain ⟨h8,h9⟩:=h6.spec
  have hρ:rho σ.objs.length [hd] 0=hd:=by simp[rho]
  refine⟨[hd],false,cargs,[D],res,[D'],h1,⟨by simp,rfl,fun j o hj=>?_,h8,fun j c d hc hd'=>?_,by simp⟩,?_⟩
  · cases j with
    | zero=>simp at hj;subst hj;simp[renO_id' h2,h4]
    | succ j=>simp at hj
  · rcases h9 j c d hc hd' with ⟨rfl,hn⟩ | ⟨rfl,rfl⟩
    · exact .pure hn
    · exact .eq (by simp[ren,hρ])
  · have e:mergeO σ.objs [hd] ([D'].map (renO (rho σ.objs.length [hd])))=σ.objs.set hd D':=by simp[mergeO,renO_id' h3]
    show K (({ σ with objs:=mergeO σ.objs [hd] ([D'].map (renO (rho σ.objs.length [hd]))) }:St).put dst (ren (rho σ.objs.length [hd]) res))
    rw[e,ren_noRef _ _ h5];exact h7
def opGd (hd:Nat) (P:Program) (o:Oper) (σ:St) (K:St→Prop):Prop :=
  match o.op with
  | .call { callee:=.value f,args,.. } =>
    match ev σ f with
    | .fn g caps=>callD P hd g (args.toList.map (ev σ)++caps) o.dst K σ
    | _=>False
  | _=>False
theorem opGd_opG {hd:Nat} {o:Oper} {K:St→Prop} (h:opGd hd P o σ K):opG P o σ K:=by
  unfold opGd at h
  unfold opG
  split at h
  · rename_i f args ats hop
    simp only[hop]
    split at h
    · rename_i g caps he
      simp only[he]
      exact callD_callK h
    · exact h.elim
  · exact h.elim
def ptF (hd:Nat):AV→Bool
  | .ptr id _ _=>id != hd
  | .ref id _ _ _=>id != hd
  | .mref id=>id != hd
  | _=>true
def ptAll (hd:Nat) (σ:St):List Operand→Bool
  | []=>true
  | x::l=>ptF hd (ev σ x) && ptAll hd σ l
def chk (hd:Nat) (q:Bool) (o:Oper) (σ:St):Bool:=q || cls o.op == 0 || decide (3≤cls o.op) || ptAll hd σ o.op.operands.toList
theorem ptAll_mem {hd:Nat}:∀ {l:List Operand},ptAll hd σ l=true→∀ x∈l,pointsTo (ev σ x)≠some hd
  | [],_,x,hx=>by simp at hx
  | y::l,h,x,hx=>by
    simp only[ptAll,Bool.and_eq_true] at h
    rcases List.mem_cons.1 hx with rfl | hx
    · intro e
      have h1:=h.1
      cases hv:ev σ x<;>rw[hv] at e h1<;>simp[pointsTo,ptF] at e h1
      · exact h1 e
      · exact h1 e
      · exact h1 e
    · exact ptAll_mem h.2 x hx
theorem ptAll_congr {hd:Nat} {σ2:St}:∀ {l:List Operand},(∀ x∈l,ev σ2 x=ev σ x)→ptAll hd σ2 l=ptAll hd σ l
  | [],_=>rfl
  | y::l,h=>by
    simp only[ptAll]
    rw[h y (by simp),ptAll_congr fun x hx=>h x (by simp[hx])]
def stepH (P:Program) (ops:Array Oper) (hd:Nat) (q dc:Bool) (o:Oper) (K:St→Prop) (σ:St):Prop :=
  match dc with
  | true=>o.guard=none∧opGd hd P o σ K
  | false=>chk hd q o σ=true∧stepD P ops q o K σ
def clsH (q dc:Bool) (o:Oper):Nat:=if dc then 6 else clsQ q o
def EffH (hd c:Nat) (a b:List Ob):Prop:=if c=6 then ∀ id,id≠hd→b[id]?=a[id]? else Eff c a b
theorem stepH_sound {N:Nat} {os:List Ob} {γ0:Cx} {ops:Array Oper} {hh:Nat} (hd:∀ o∈ops.toList,∀ d,o.dst=some d→d<N) {q dc:Bool} {i:Nat} {o:Oper} (hi:ops[i]?=some o) {σ:St} {K:St→Prop}
    (h:stepH P ops hh q dc o K σ) {a:Act} {w:World} (hok:Okay N os γ0 σ a w) {Q:Exit→Act→World→Prop} {next:Act→World→Prop} (hn:∀ σ' a' w',K σ'→Okay N os γ0 σ' a' w'→next a' w'):wpOp P ops Q i next a w:=by
  cases dc with
  | false=>exact stepD_sound hd hi h.2 hok hn
  | true =>
    have hmem:o∈ops.toList:=List.mem_of_getElem? (by simpa using hi)
    unfold wpOp
    simp only[hi]
    have hw:Region.wanted o (yielded ops a.tmps)=true:=by simp[Region.wanted,h.1]
    rw[if_pos hw]
    left
    exact opG_sound (opGd_opG h.2) hok (hd o hmem) hn
theorem stepH_local {ops:Array Oper} {hh:Nat} {q dc:Bool} {o:Oper} {σ:St} {K:St→Prop} (hW:stepH P ops hh q dc o K σ) :
    ∃ v os,EffH hh (clsH q dc o) σ.objs os∧K ((⟨σ.env,os⟩:St).put o.dst v)∧∀ (e2:Nat→AV) (K2:St→Prop),(∀ t∈o.looksAt ops,e2 t=σ.env t)→K2 ((⟨e2,os⟩:St).put o.dst v)→stepH P ops hh q dc o K2 ⟨e2,σ.objs⟩:=by
  cases dc with
  | false =>
    obtain ⟨hc,hW⟩:=hW
    obtain ⟨v,os,h1,h2,h3⟩:=stepD_local hW
    refine⟨v,os,?_,h2,fun e2 K2 hl hK=>⟨?_,h3 e2 K2 hl hK⟩⟩
    · unfold EffH clsH
      simp only[Bool.false_eq_true,if_false]
      rw[if_neg]
      · exact h1
      · unfold clsQ
        split
        · omega
        · unfold cls;split<;>omega
    · unfold chk at hc ⊢
      rw[ptAll_congr (σ:=σ) (ev_looks hl)];exact hc
  | true =>
    obtain ⟨hg,hW⟩:=hW
    unfold opGd at hW
    split at hW
    · rename_i f args ats hop
      split at hW
      · rename_i g caps he
        obtain ⟨cargs,D,res,D',h1,h2,h3,h4,h5,h6,h7⟩:=hW
        refine⟨res,σ.objs.set hh D',?_,h7,fun e2 K2 hl hK=>⟨hg,?_⟩⟩
        · unfold EffH clsH
          simp only[if_true]
          intro id hid
          rw[List.getElem?_set,if_neg (Ne.symm hid)]
        · unfold opGd
          simp only[hop]
          have hx:=ev_looks (os:=σ.objs) hl
          have e1:ev ⟨e2,σ.objs⟩ f=.fn g caps:=by rw[← he];exact hx f (by simp[hop,Op.operands,Call.operands])
          have e3:args.toList.map (ev ⟨e2,σ.objs⟩)=args.toList.map (ev σ):=List.map_congr_left fun y hy=>hx y (by simp only[hop,Op.operands,Call.operands,Array.toList_append,List.mem_append];exact .inr hy)
          simp only[e1,e3]
          exact⟨cargs,D,res,D',h1,h2,h3,h4,h5,h6,hK⟩
      · exact hW.elim
    · exact hW.elim
theorem opG_valueP {o:Oper} {σ:St} {K:St→Prop} (hc:cls o.op≤2) (hW:opG P o σ K) :
    ∃ v,K (σ.put o.dst v)∧∀ (σ2:St) (K2:St→Prop),(∀ x∈o.op.operands.toList,ev σ2 x=ev σ x)→(∀ x∈o.op.operands.toList,∀ id,pointsTo (ev σ x)=some id→ObjC (cls o.op) σ.objs[id]? σ2.objs[id]?)→K2 (σ2.put o.dst v)→opG P o σ2 K2:=by
  unfold opG at hW ⊢
  split at hW
  · rename_i f args ats hop
    rw[hop] at hc
    simp[cls] at hc
  · rename_i r m args ats hop
    rw[hop] at hc
    simp[cls] at hc
  · rename_i hne
    obtain ⟨v,h2,h3⟩:=opW_value hc hW
    refine⟨v,h2,fun σ2 K2 hx ho hK=>?_⟩
    exact h3 σ2 K2 hx (ho) hK
theorem opGm_valueP {q:Bool} {o:Oper} {σ:St} {K:St→Prop} (hc:clsQ q o≤2) (hW:opGm q P o σ K) :
    ∃ v,K (σ.put o.dst v)∧∀ (σ2:St) (K2:St→Prop),(∀ x∈o.op.operands.toList,ev σ2 x=ev σ x)→(∀ x∈o.op.operands.toList,∀ id,pointsTo (ev σ x)=some id→ObjC (clsQ q o) σ.objs[id]? σ2.objs[id]?)→K2 (σ2.put o.dst v)→opGm q P o σ2 K2:=by
  cases q with
  | false=>exact opG_valueP hc hW
  | true =>
    unfold opGm at hW ⊢
    simp only at hW ⊢
    split at hW
    · rename_i f args ats hop
      simp only[hop]
      split at hW
      · rename_i g caps he
        obtain ⟨res,h1,h2,h3,h4⟩:=hW
        refine⟨res,h4,fun σ2 K2 hx _ hK=>?_⟩
        have e1:ev σ2 f=.fn g caps:=by rw[← he];exact hx f (by simp[Op.operands,Call.operands])
        have e3:args.toList.map (ev σ2)=args.toList.map (ev σ):=List.map_congr_left fun y hy=>hx y (by simp only[Op.operands,Call.operands,Array.toList_append,List.mem_append];exact .inr hy)
        simp only[e1,e3]
        exact⟨res,h1,h2,h3,hK⟩
      · exact hW.elim
    · rename_i t a hop
      obtain ⟨x,h1,h2⟩:=loadQ_det hW
      refine⟨x,h1,fun σ2 K2 hx _ hK=>?_⟩
      rw[hx a (by simp[hop,Op.operands])]
      exact h2 _ K2 hK
    · exact hW.elim
theorem stepD_valueP {ops:Array Oper} {q:Bool} {o:Oper} {σ:St} {K:St→Prop} (hc:clsQ q o≤2) (hW:stepD P ops q o K σ) :
    ∃ v,K (σ.put o.dst v)∧∀ (σ2:St) (K2:St→Prop),(∀ t∈o.looksAt ops,σ2.env t=σ.env t)→(∀ x∈o.op.operands.toList,∀ id,pointsTo (ev σ x)=some id→ObjC (clsQ q o) σ.objs[id]? σ2.objs[id]?)→K2 (σ2.put o.dst v)→stepD P ops q o K2 σ2:=by
  unfold stepD at hW ⊢
  cases hg:o.guard with
  | none =>
    simp only[hg] at hW
    obtain ⟨v,h2,h3⟩:=opGm_valueP hc hW
    exact⟨v,h2,fun σ2 K2 hl ho hK=>h3 σ2 K2 (ev_looks (e2:=σ2.env) (os:=σ2.objs) hl) ho hK⟩
  | some jw =>
    obtain ⟨j,want⟩:=jw
    simp only[hg] at hW
    cases hdj:(ops[j]?).bind (·.dst) with
    | none=>simp[hdj] at hW
    | some d =>
      simp only[hdj] at hW
      split at hW
      · rename_i b he
        by_cases hbw:b=want
        · obtain ⟨v,h2,h3⟩:=opGm_valueP hc (hW.1 hbw)
          refine⟨v,h2,fun σ2 K2 hl ho hK=>?_⟩
          have:σ2.env d=.lit (.bool b):=by rw[hl d (guard_looks hg hdj)];exact he
          simp only[hdj,this]
          exact⟨fun _=>h3 σ2 K2 (ev_looks (e2:=σ2.env) (os:=σ2.objs) hl) ho hK,fun hn=>absurd hbw hn⟩
        · refine⟨.lit (.tuple #[]),hW.2 hbw,fun σ2 K2 hl ho hK=>?_⟩
          have:σ2.env d=.lit (.bool b):=by rw[hl d (guard_looks hg hdj)];exact he
          simp only[hdj,this]
          exact⟨fun hn=>absurd hn hbw,fun _=>hK⟩
      · rename_i vs he
        refine⟨.lit (.tuple #[]),hW.2,fun σ2 K2 hl ho hK=>?_⟩
        have:σ2.env d=.lit (.tuple vs):=by rw[hl d (guard_looks hg hdj)];exact he
        simp only[hdj,this]
        exact⟨hW.1,hK⟩
      · exact hW.elim
theorem stepH_value {ops:Array Oper} {hh:Nat} {q dc:Bool} {o:Oper} {σ:St} {K:St→Prop} (hc:clsH q dc o≤2) (hW:stepH P ops hh q dc o K σ) :
    ∃ v,K (σ.put o.dst v)∧∀ (σ2:St) (K2:St→Prop),(∀ t∈o.looksAt ops,σ2.env t=σ.env t)→(∀ (id:Nat),id≠hh→ObjC (clsH q dc o) σ.objs[id]? σ2.objs[id]?)→K2 (σ2.put o.dst v)→stepH P ops hh q dc o K2 σ2:=by
  cases dc with
  | true=>simp[clsH] at hc
  | false =>
    obtain ⟨hk,hW⟩:=hW
    have hc':clsQ q o≤2:=by simpa [clsH] using hc
    obtain ⟨v,h1,h2⟩:=stepD_valueP hc' hW
    refine⟨v,h1,fun σ2 K2 hl ho hK=>⟨?_,h2 σ2 K2 hl (fun x hx id hp=>?_) hK⟩⟩
    · unfold chk at hk ⊢
      rw[ptAll_congr (σ:=σ) (ev_looks (e2:=σ2.env) (os:=σ2.objs) hl)];exact hk
    · have ho':∀ id,id≠hh→ObjC (clsQ q o) σ.objs[id]? σ2.objs[id]?:=by simpa [clsH] using ho
      by_cases h0:clsQ q o=0
      · rw[h0];simp[ObjC]
      · refine ho' id fun e=>?_
        subst e
        unfold clsQ at h0 hc'
        split at h0
        · omega
        · rename_i hq
          simp only[hq] at hc'
          have hq':q=false:=by simpa using hq
          subst hq'
          unfold chk at hk
          have hc2:cls o.op≤2:=by simpa using hc'
          have h3:decide (3≤cls o.op)=false:=decide_eq_false (by omega)
          have h4:(cls o.op == 0)=false:=by simpa using h0
          rw[h3,h4] at hk
          simp only[Bool.false_or] at hk
          exact ptAll_mem hk x hx hp
def compatH (ci ck:Nat):Bool:=compat ci ck || (decide (ci≤2) && ck == 6)
theorem effH_objC {hh ci ck:Nat} (h:(ci == 0 || (ci == 1 && decide (ck≤4)) || (ci == 2 && decide (ck≤3)) || (decide (ci≤2) && ck == 6))=true) {a b:List Ob} (he:EffH hh ck a b) (id:Nat) (hid:id≠hh):ObjC ci a[id]? b[id]?:=by
  unfold EffH at he
  split at he
  · rename_i h6
    subst h6
    rw[he id hid]
    unfold ObjC
    split
    · trivial
    · split
      · intro o ho;exact⟨o,ho,sameK_refl o⟩
      · intro o ho;exact ho
  · rename_i h6
    refine eff_objC ?_ he id
    have:(ck == 6)=false:=by simpa using h6
    rw[this] at h
    simpa using h
theorem swap_valueH {ops:Array Oper} {hh:Nat} {qi qk di dk:Bool} {oi ok:Oper} (ha:oi.apart ops ok=true) (hi:clsH qi di oi≤2)
    (hc:(clsH qi di oi == 0 || (clsH qi di oi == 1 && decide (clsH qk dk ok≤4)) || (clsH qi di oi == 2 && decide (clsH qk dk ok≤3)) || (decide (clsH qi di oi≤2) && clsH qk dk ok == 6))=true) {σ:St} {K:St→Prop}
    (h:stepH P ops hh qi di oi (stepH P ops hh qk dk ok K) σ):stepH P ops hh qk dk ok (stepH P ops hh qi di oi K) σ:=by
  obtain ⟨a1,a2,a3⟩:=Oper.apart_spec ha
  obtain ⟨v,h1,run⟩:=stepH_value hi h
  obtain ⟨vk,os,heff,h2,run2⟩:=stepH_local h1
  rw[put_objs] at heff run2
  refine run2 σ.env _ (fun t ht=>(put_env_ne fun d hd e=>a1 d hd (e ▸ ht)).symm) ?_
  refine run _ _ (fun t ht=>?_) (fun id hid=>?_) ?_
  · rw[put_env_ne fun d hd e=>a3 d hd (e ▸ ht)]
  · rw[put_objs];exact effH_objC hc heff id hid
  · rw[put_over] at h2
    rw[put_comm' (fun d hd e=>a2 d e hd)]
    exact h2
theorem swap_quietH {ops:Array Oper} {hh:Nat} {qi qk di dk:Bool} {oi ok:Oper} (ha:oi.apart ops ok=true) (hk:clsH qk dk ok=0) {σ:St} {K:St→Prop}
    (h:stepH P ops hh qi di oi (stepH P ops hh qk dk ok K) σ):stepH P ops hh qk dk ok (stepH P ops hh qi di oi K) σ:=by
  obtain ⟨a1,a2,a3⟩:=Oper.apart_spec ha
  obtain ⟨vi,os,heff,h1,run⟩:=stepH_local h
  obtain ⟨vk,h2,runk⟩:=stepH_value (by omega) h1
  refine runk σ _ (fun t ht=>(put_env_ne (σ:=⟨σ.env,os⟩) fun d hd e=>a1 d hd (e ▸ ht)).symm) (fun id _=>by rw[hk];simp[ObjC]) ?_
  rw[put_eta]
  refine run _ _ (fun t ht=>put_env_ne fun d hd e=>a3 d hd (e ▸ ht)) ?_
  rw[put_over,put_comm' (fun d hd e=>a2 d e hd)]
  exact h2
theorem swap_stepsH {ops:Array Oper} {hh:Nat} {qi qk di dk:Bool} {oi ok:Oper} (ha:oi.apart ops ok=true) (hc:compatH (clsH qi di oi) (clsH qk dk ok)=true) {σ:St} {K:St→Prop}
    (h:stepH P ops hh qi di oi (stepH P ops hh qk dk ok K) σ):stepH P ops hh qk dk ok (stepH P ops hh qi di oi K) σ:=by
  by_cases hk:clsH qk dk ok=0
  · exact swap_quietH ha hk h
  · have hc':(clsH qi di oi == 0 || (clsH qi di oi == 1 && decide (clsH qk dk ok≤4)) || (clsH qi di oi == 2 && decide (clsH qk dk ok≤3)) || (decide (clsH qi di oi≤2) && clsH qk dk ok == 6))=true:=by
      simp only[compatH,compat,Bool.or_eq_true,Bool.and_eq_true,beq_iff_eq,decide_eq_true_eq] at hc ⊢
      rcases hc with (((h | h) | h) | h) | h
      · exact .inl (.inl (.inl h))
      · exact absurd h hk
      · exact .inl (.inl (.inr h))
      · exact .inl (.inr h)
      · exact .inr h
    refine swap_valueH ha ?_ hc' h
    simp only[Bool.or_eq_true,Bool.and_eq_true,beq_iff_eq,decide_eq_true_eq] at hc'
    omega
def stepAtH (P:Program) (ops:Array Oper) (hh:Nat) (qs ds:List Nat) (i:Nat) (K:St→Prop) (σ:St):Prop :=
  match ops[i]? with
  | none=>K σ
  | some o=>stepH P ops hh (qs.contains i) (ds.contains i) o K σ
def anyWH (P:Program) (ops:Array Oper) (hh:Nat) (qs ds:List Nat) (K:St→Prop):Nat→Array Bool→St→Prop
  | 0,listed,σ=>Region.ready .any ops listed=[]∧K σ
  | n+1,listed,σ=>(Region.ready .any ops listed=[]→K σ)∧∀ i∈Region.ready .any ops listed,stepAtH P ops hh qs ds i (anyWH P ops hh qs ds K n (listed.setIfInBounds i true)) σ
theorem stepH_mono {ops:Array Oper} {hh:Nat} {q dc:Bool} {o:Oper} {σ:St} {K K2:St→Prop} (hk:∀ s,K s→K2 s) (h:stepH P ops hh q dc o K σ):stepH P ops hh q dc o K2 σ:=by
  obtain ⟨v,os,_,h2,run⟩:=stepH_local h
  exact run σ.env K2 (fun _ _=>rfl) (hk _ h2)
theorem stepH_some {ops:Array Oper} {hh:Nat} {q dc:Bool} {o:Oper} {σ:St} {K:St→Prop} (h:stepH P ops hh q dc o K σ) :∃s,K s:=by
  obtain ⟨v,os,_,h2,run⟩:=stepH_local h
  exact⟨_,h2⟩
theorem stepAt_monoH {ops:Array Oper} {hh:Nat} {qs ds:List Nat} {i:Nat} {σ:St} {K K2:St→Prop} (hk:∀ s,K s→K2 s) (h:stepAtH P ops hh qs ds i K σ):stepAtH P ops hh qs ds i K2 σ:=by
  unfold stepAtH at h ⊢
  split at h
  · exact hk _ h
  · exact stepH_mono hk h
theorem stepAt_someH {ops:Array Oper} {hh:Nat} {qs ds:List Nat} {i:Nat} {σ:St} {K:St→Prop} (h:stepAtH P ops hh qs ds i K σ) :∃s,K s:=by
  unfold stepAtH at h
  split at h
  · exact⟨_,h⟩
  · exact stepH_some h
theorem anyW_soundH {os:List Ob} {γ0:Cx} {ops:Array Oper} {hh:Nat} {qs ds:List Nat} (hd:∀ o∈ops.toList,∀ d,o.dst=some d→d<N) {K:St→Prop} {Q:Exit→Act→World→Prop}
    (hQ:∀ σ' a' w',K σ'→Okay N os γ0 σ' a' w'→Q .normal a' w'):∀ (n:Nat) (listed:Array Bool) (σ:St) (a:Act) (w:World),anyWH P ops hh qs ds K n listed σ→Okay N os γ0 σ a w→wpAny P .any ops Q n listed a w
  | 0,listed,σ,a,w,h,hok=>⟨h.1,hQ _ _ _ h.2 hok⟩
  | n+1,listed,σ,a,w,h,hok=>by
    refine⟨fun hr=>hQ _ _ _ (h.1 hr) hok,fun i hi=>?_⟩
    have:=h.2 i hi
    unfold stepAtH at this
    split at this
    · rename_i hi'
      unfold wpOp
      simp only[hi']
      exact anyW_soundH hd hQ n _ _ _ _ this hok
    · rename_i o hi'
      exact stepH_sound hd hi' this hok fun σ' a' w' hK hok'=>anyW_soundH hd hQ n _ _ _ _ hK hok'
theorem W_region_anyH {id:Nat} {ops:Array Oper} {Q:Exit→St→Prop} (hh:Nat) (qs ds:List Nat) (hm:P.follows .mixedOrders=true) (hd:dstOK N ops=true)
    (h:anyWH P ops hh qs ds (Q .normal) ops.size (Array.replicate ops.size false) σ):W P N n0 (.region id ops true) Q σ:=by
  intro os γ0 a w _ hok
  refine wp_region_any hm ?_
  exact anyW_soundH (dstOK_spec hd) (K:=Q .normal) (fun σ' a' w' hK hok'=>⟨σ',hK,hok'⟩) _ _ _ _ _ h hok.drawn
theorem any_takeH {ops:Array Oper} {hh:Nat} {qs ds:List Nat} {K:St→Prop} {i:Nat} {o:Oper} (hi:ops[i]?=some o) (D:List Nat) (hiD:i∈D)
    (hD:∀ j∈D,j=i∨∃ oj,ops[j]?=some oj∧∃ e∈oj.after,Region.binds .any e=true∧e.on∈D):∀ (fuel:Nat) (listed:Array Bool) (σ:St),(∀ j∈D,listed.getD j true=false) →
      i∈Region.ready .any ops listed →
      (∀ j oj,ops[j]?=some oj→listed.getD j true=false→j ∉ D→o.apart ops oj=true∧compatH (clsH (qs.contains i) (ds.contains i) o) (clsH (qs.contains j) (ds.contains j) oj)=true) →
      stepAtH P ops hh qs ds i (anyWH P ops hh qs ds K fuel (listed.setIfInBounds i true)) σ→anyWH P ops hh qs ds K (fuel+1) listed σ:=by
  intro fuel
  induction fuel with
  | zero =>
    intro listed σ hu hr hap h
    refine⟨fun e=>by rw[e] at hr;simp at hr,fun k hk=>?_⟩
    by_cases hki:k=i
    · subst hki;exact h
    · obtain ⟨s,hs⟩:=stepAt_someH h
      have:=ready_mono hk hki
      rw[hs.1] at this
      simp at this
  | succ m ih =>
    intro listed σ hu hr hap h
    refine⟨fun e=>by rw[e] at hr;simp at hr,fun k hk=>?_⟩
    by_cases hki:k=i
    · subst hki;exact h
    · have hkr:=mem_ready.1 hk
      obtain ⟨hkl,ok,hok,hke⟩:=hkr
      have hkD:k ∉ D:=by
        intro hkD
        rcases hD k hkD with e | ⟨oj,hoj,e,he,hb,hon⟩
        · exact hki e
        · rw[hok] at hoj
          simp only[Option.some.injEq] at hoj
          subst hoj
          have h1:=hke e he hb
          have h2:=hu e.on hon
          rw[Array.getD_eq_getD_getElem?] at h1 h2
          cases hx:listed[e.on]? with
          | none=>rw[hx] at h1;simp at h1
          | some b=>rw[hx] at h1 h2;simp at h1 h2;rw[h1] at h2;simp at h2
      obtain ⟨ha,hc⟩:=hap k ok hok hkl hkD
      have h1:stepAtH P ops hh qs ds i (stepAtH P ops hh qs ds k (anyWH P ops hh qs ds K m ((listed.setIfInBounds i true).setIfInBounds k true))) σ :=
        stepAt_monoH (fun s hs=>hs.2 k (ready_mono hk hki)) h
      have h2:stepAtH P ops hh qs ds k (stepAtH P ops hh qs ds i (anyWH P ops hh qs ds K m ((listed.setIfInBounds i true).setIfInBounds k true))) σ:=by
        unfold stepAtH at h1 ⊢
        simp only[hi,hok] at h1 ⊢
        exact swap_stepsH ha hc h1
      refine stepAt_monoH (fun s hs=>?_) h2
      refine ih (listed.setIfInBounds k true) s (fun j hj=>?_) (ready_mono hr (Ne.symm hki)) (fun j oj hoj hl hjD=>?_) ?_
      · have hne:k≠j:=fun e=>hkD (by rw[e];exact hj)
        rw[getD_set_ne _ hne];exact hu j hj
      · refine hap j oj hoj ?_ hjD
        by_cases hjk:k=j
        · subst hjk;exact hkl
        · rwa [getD_set_ne _ hjk] at hl
      · rw[Array.setIfInBounds_comm _ _ (Ne.symm hki)] at hs
        exact hs
def takeOKH (ops:Array Oper) (qs ds:List Nat) (listed:Array Bool) (i:Nat) (D:List Nat):Bool :=
  match ops[i]? with
  | none=>false
  | some o =>
    D.contains i && D.all (fun j=>j == i || match ops[j]? with | some oj=>oj.after.any (fun e=>Region.binds .any e && D.contains e.on) | none=>false) &&
    D.all (fun j=>!listed.getD j true) && o.after.all (fun e=>!Region.binds .any e || listed.getD e.on false) &&
    (List.range ops.size).all fun j=>D.contains j || listed.getD j true || match ops[j]? with | some oj=>o.apart ops oj && compatH (clsH (qs.contains i) (ds.contains i) o) (clsH (qs.contains j) (ds.contains j) oj) | none=>true
theorem take_okH {ops:Array Oper} {hh:Nat} {qs ds:List Nat} {K:St→Prop} {i:Nat} {D:List Nat} {fuel:Nat} {listed:Array Bool} (h:takeOKH ops qs ds listed i D=true)
    (hs:stepAtH P ops hh qs ds i (anyWH P ops hh qs ds K fuel (listed.setIfInBounds i true)) σ):anyWH P ops hh qs ds K (fuel+1) listed σ:=by
  unfold takeOKH at h
  cases hi:ops[i]? with
  | none=>simp[hi] at h
  | some o =>
    simp only[hi,Bool.and_eq_true,List.all_eq_true,List.contains_iff_mem,Bool.or_eq_true,beq_iff_eq,Bool.not_eq_true'] at h
    obtain ⟨⟨⟨⟨h1,h2⟩,h3⟩,h4⟩,h5⟩:=h
    refine any_takeH hi D h1 (fun j hj=>?_) fuel listed σ h3 ?_ ?_ hs
    · rcases h2 j hj with h | h
      · exact .inl h
      · right
        split at h
        · rename_i oj hoj
          rw[Array.any_eq_true'] at h
          obtain ⟨e,he,hb⟩:=h
          simp only[Bool.and_eq_true,List.contains_iff_mem] at hb
          exact⟨oj,hoj,e,he,hb.1,hb.2⟩
        · simp at h
    · rw[mem_ready]
      refine⟨h3 i h1,o,hi,fun e he hb=>?_⟩
      rw[Array.all_eq_true'] at h4
      have:=h4 e he
      simpa [hb] using this
    · intro j oj hoj hl hjD
      have hj:j<ops.size:=(Array.getElem?_eq_some_iff.1 hoj).1
      rcases h5 j (List.mem_range.2 hj) with (h | h) | h
      · exact absurd h hjD
      · rw[hl] at h;simp at h
      · simpa [hoj] using h
def PT.okH (ops:Array Oper) (qs ds:List Nat):PT→Nat→Array Bool→Bool
  | .nil,n,listed=>n == 0 && (Region.ready .any ops listed).isEmpty
  | .take _ _,0,_=>false
  | .take i t,n+1,listed=>takeOKH ops qs ds listed i (depsOf ops i) && t.okH ops qs ds n (listed.setIfInBounds i true)
  | .both _ _ _ _,0,_=>false
  | .both i t j u,n+1,listed=>(Region.ready .any ops listed == [i,j]) && t.okH ops qs ds n (listed.setIfInBounds i true) && u.okH ops qs ds n (listed.setIfInBounds j true)
  | .three _ _ _ _ _ _,0,_=>false
  | .three i t j u k v,n+1,listed=>(Region.ready .any ops listed == [i,j,k]) && t.okH ops qs ds n (listed.setIfInBounds i true) && u.okH ops qs ds n (listed.setIfInBounds j true) && v.okH ops qs ds n (listed.setIfInBounds k true)
def planWH (P:Program) (ops:Array Oper) (hh:Nat) (qs ds:List Nat):PT→(St→Prop)→St→Prop
  | .nil,K,σ=>K σ
  | .take i t,K,σ=>stepAtH P ops hh qs ds i (planWH P ops hh qs ds t K) σ
  | .both i t j u,K,σ=>stepAtH P ops hh qs ds i (planWH P ops hh qs ds t K) σ∧stepAtH P ops hh qs ds j (planWH P ops hh qs ds u K) σ
  | .three i t j u k v,K,σ=>stepAtH P ops hh qs ds i (planWH P ops hh qs ds t K) σ∧stepAtH P ops hh qs ds j (planWH P ops hh qs ds u K) σ∧stepAtH P ops hh qs ds k (planWH P ops hh qs ds v K) σ
theorem plan_anyH {ops:Array Oper} {hh:Nat} {qs ds:List Nat} {K:St→Prop}:∀ (t:PT) (n:Nat) (listed:Array Bool) (σ:St),t.okH ops qs ds n listed=true→planWH P ops hh qs ds t K σ→anyWH P ops hh qs ds K n listed σ
  | .nil,n,listed,σ,h,hp=>by
    simp only[PT.okH,Bool.and_eq_true,beq_iff_eq,List.isEmpty_iff] at h
    obtain ⟨rfl,h⟩:=h
    exact⟨h,hp⟩
  | .take _ _,0,_,_,h,_=>by simp[PT.okH] at h
  | .take i t,n+1,listed,σ,h,hp=>by
    simp only[PT.okH,Bool.and_eq_true] at h
    exact take_okH h.1 (stepAt_monoH (fun s hs=>plan_anyH t n _ s h.2 hs) hp)
  | .both _ _ _ _,0,_,_,h,_=>by simp[PT.okH] at h
  | .both i t j u,n+1,listed,σ,h,hp=>by
    simp only[PT.okH,Bool.and_eq_true,beq_iff_eq] at h
    obtain ⟨⟨h1,h2⟩,h3⟩:=h
    refine⟨fun e=>by rw[h1] at e;simp at e,fun k hk=>?_⟩
    rw[h1] at hk
    simp only[List.mem_cons,List.not_mem_nil,or_false] at hk
    rcases hk with rfl | rfl
    · exact stepAt_monoH (fun s hs=>plan_anyH t n _ s h2 hs) hp.1
    · exact stepAt_monoH (fun s hs=>plan_anyH u n _ s h3 hs) hp.2
  | .three _ _ _ _ _ _,0,_,_,h,_=>by simp[PT.okH] at h
  | .three i t j u k v,n+1,listed,σ,h,hp=>by
    simp only[PT.okH,Bool.and_eq_true,beq_iff_eq] at h
    obtain ⟨⟨⟨h1,h2⟩,h3⟩,h4⟩:=h
    refine⟨fun e=>by rw[h1] at e;simp at e,fun x hk=>?_⟩
    rw[h1] at hk
    simp only[List.mem_cons,List.not_mem_nil,or_false] at hk
    rcases hk with rfl | rfl | rfl
    · exact stepAt_monoH (fun s hs=>plan_anyH t n _ s h2 hs) hp.1
    · exact stepAt_monoH (fun s hs=>plan_anyH u n _ s h3 hs) hp.2.1
    · exact stepAt_monoH (fun s hs=>plan_anyH v n _ s h4 hs) hp.2.2
theorem W_drawH {id:Nat} {ops:Array Oper} {Q:Exit→St→Prop} (hh:Nat) (qs ds:List Nat) (t:PT) (hm:P.follows .mixedOrders=true) (hd:dstOK N ops=true) (ht:t.okH ops qs ds ops.size (Array.replicate ops.size false)=true)
    (h:planWH P ops hh qs ds t (Q .normal) σ):W P N n0 (.region id ops true) Q σ :=
  W_region_anyH hh qs ds hm hd (plan_anyH t _ _ σ ht h)
theorem planWH_nil {ops:Array Oper} {hh:Nat} {qs ds:List Nat} {K:St→Prop}:planWH P ops hh qs ds .nil K σ=K σ:=rfl
theorem planWH_take {ops:Array Oper} {hh:Nat} {qs ds:List Nat} {i:Nat} {t:PT} {K:St→Prop}:planWH P ops hh qs ds (.take i t) K σ=stepAtH P ops hh qs ds i (planWH P ops hh qs ds t K) σ:=rfl
theorem planWH_three {ops:Array Oper} {hh:Nat} {qs ds:List Nat} {i j k:Nat} {t u v:PT} {K:St→Prop}:planWH P ops hh qs ds (.three i t j u k v) K σ=(stepAtH P ops hh qs ds i (planWH P ops hh qs ds t K) σ∧stepAtH P ops hh qs ds j (planWH P ops hh qs ds u K) σ∧stepAtH P ops hh qs ds k (planWH P ops hh qs ds v K) σ):=rfl
theorem planWH_both {ops:Array Oper} {hh:Nat} {qs ds:List Nat} {i j:Nat} {t u:PT} {K:St→Prop}:planWH P ops hh qs ds (.both i t j u) K σ=(stepAtH P ops hh qs ds i (planWH P ops hh qs ds t K) σ∧stepAtH P ops hh qs ds j (planWH P ops hh qs ds u K) σ):=rfl
theorem stepH_t {ops:Array Oper} {hh:Nat} {q:Bool} {o:Oper} {K:St→Prop}:stepH P ops hh q true o K σ=(o.guard=none∧opGd hh P o σ K):=rfl
theorem stepH_f {ops:Array Oper} {hh:Nat} {q:Bool} {o:Oper} {K:St→Prop}:stepH P ops hh q false o K σ=(chk hh q o σ=true∧stepD P ops q o K σ):=rfl
def callVD (P:Program) (hh:Nat) (dst:Option Tmp) (args:List AV) (K:St→Prop) (σ:St):AV→Prop
  | .fn g caps=>callD P hh g (args++caps) dst K σ
  | _=>False
theorem callVD_fn {hh:Nat} {dst:Option Tmp} {args:List AV} {K:St→Prop} {g:FuncId} {caps:List AV}:callVD P hh dst args K σ (.fn g caps)=callD P hh g (args++caps) dst K σ:=rfl
section
variable {dst:Option Tmp} {tt:TypeId} {p:String} {af:Array Edge} {g:Option (Nat × Bool)} {K:St→Prop} {hh:Nat}
theorem opGd_call (f:Operand) (args:Array Operand) (ats:Array TypeId):opGd hh P ⟨dst,.call ⟨.value f,args,ats⟩,tt,p,af,g⟩ σ K=callVD P hh dst (args.toList.map (ev σ)) K σ (ev σ f):=by
  simp only[opGd]
  cases ev σ f<;>rfl
theorem chk_q {o:Oper}:chk hh true o σ=true:=by simp[chk]
theorem chk_load (t:TypeId) (a:Operand):chk hh false ⟨dst,.load t a,tt,p,af,g⟩ σ=ptF hh (ev σ a):=by simp[chk,cls,Op.operands,ptAll]
theorem chk_fieldAddr (t:TypeId) (a:Operand) (f:Nat):chk hh false ⟨dst,.fieldAddr t a f,tt,p,af,g⟩ σ=ptF hh (ev σ a):=by simp[chk,cls,Op.operands,ptAll]
theorem chk_nilCheck (a:Operand):chk hh false ⟨dst,.nilCheck a,tt,p,af,g⟩ σ=ptF hh (ev σ a):=by simp[chk,cls,Op.operands,ptAll]
theorem chk_indexAddr (t:TypeId) (a i:Operand):chk hh false ⟨dst,.indexAddr t a i,tt,p,af,g⟩ σ=(ptF hh (ev σ a) && ptF hh (ev σ i)):=by simp[chk,cls,Op.operands,ptAll]
theorem chk_len (x:Operand) (ats:Array TypeId):chk hh false ⟨dst,.call ⟨.builtin .len,#[x],ats⟩,tt,p,af,g⟩ σ=ptF hh (ev σ x):=by simp[chk,cls,Op.operands,Call.operands,ptAll]
theorem chk_other {o:Oper} (h:(cls o.op == 0 || decide (3≤cls o.op))=true):chk hh false o σ=true:=by simp only[chk,Bool.false_or,h,Bool.true_or]
theorem ptF_ptr (id r c:Nat):ptF hh (.ptr id r c) = !(id == hh):=rfl
theorem ptF_ref (id a b c:Nat):ptF hh (.ref id a b c) = !(id == hh):=rfl
theorem ptF_lit (v:Value):ptF hh (.lit v)=true:=rfl
theorem ptF_tree (s:Nat) (r:List (List AV)):ptF hh (.tree s r)=true:=rfl
theorem ptF_taddr (r:List AV):ptF hh (.taddr r)=true:=rfl
theorem ptF_agg (r:List AV):ptF hh (.agg r)=true:=rfl
theorem ptF_tup (r:List AV):ptF hh (.tup r)=true:=rfl
theorem ptF_undef:ptF hh .undef=true:=rfl
theorem chk_move (x:Operand):chk hh false ⟨dst,.move x,tt,p,af,g⟩ σ=true:=chk_other (by rfl)
theorem chk_assign (x:Operand):chk hh false ⟨dst,.assign x,tt,p,af,g⟩ σ=true:=chk_other (by rfl)
theorem chk_pick (c a b:Operand):chk hh false ⟨dst,.pick c a b,tt,p,af,g⟩ σ=true:=chk_other (by rfl)
theorem chk_binOp (op:BinOp) (t:TypeId) (x y:Operand) (yt:TypeId):chk hh false ⟨dst,.binOp op t x y yt,tt,p,af,g⟩ σ=true:=chk_other (by rfl)
theorem chk_unOp (op:UnOp) (t:TypeId) (x:Operand):chk hh false ⟨dst,.unOp op t x,tt,p,af,g⟩ σ=true:=chk_other (by rfl)
theorem chk_makeFunc (fn:Fn) (a b:Array Operand):chk hh false ⟨dst,.makeFunc fn a b,tt,p,af,g⟩ σ=true:=chk_other (by rfl)
theorem chk_field (s:TypeId) (x:Operand) (f:Nat):chk hh false ⟨dst,.field s x f,tt,p,af,g⟩ σ=true:=chk_other (by rfl)
theorem chk_extract (x:Operand) (i:Nat):chk hh false ⟨dst,.extract x i,tt,p,af,g⟩ σ=true:=chk_other (by rfl)
theorem chk_build (t:TypeId) (parts:Array (Nat × Operand)):chk hh false ⟨dst,.build t parts,tt,p,af,g⟩ σ=true:=chk_other (by rfl)
theorem chk_alloc (e:TypeId):chk hh false ⟨dst,.alloc e,tt,p,af,g⟩ σ=true:=chk_other (by rfl)
theorem chk_box (e:TypeId) (x:Operand):chk hh false ⟨dst,.box e x,tt,p,af,g⟩ σ=true:=chk_other (by rfl)
theorem chk_makeSlice (t:TypeId) (l c:Operand):chk hh false ⟨dst,.makeSlice t l c,tt,p,af,g⟩ σ=true:=chk_other (by rfl)
theorem chk_buildSlice (t:TypeId) (len:Nat) (parts:Array (Nat × Operand)):chk hh false ⟨dst,.buildSlice t len parts,tt,p,af,g⟩ σ=true:=chk_other (by rfl)
theorem chk_store (t:TypeId) (a x:Operand):chk hh false ⟨dst,.store t a x,tt,p,af,g⟩ σ=true:=chk_other (by rfl)
theorem chk_call (f:Operand) (args:Array Operand) (ats:Array TypeId):chk hh false ⟨dst,.call ⟨.value f,args,ats⟩,tt,p,af,g⟩ σ=true:=chk_other (by rfl)
theorem chk_append (args:Array Operand) (ats:Array TypeId):chk hh false ⟨dst,.call ⟨.builtin .append,args,ats⟩,tt,p,af,g⟩ σ=true:=chk_other (by rfl)
theorem chk_min (args:Array Operand) (ats:Array TypeId):chk hh false ⟨dst,.call ⟨.builtin .min,args,ats⟩,tt,p,af,g⟩ σ=true:=chk_other (by rfl)
theorem chk_max (args:Array Operand) (ats:Array TypeId):chk hh false ⟨dst,.call ⟨.builtin .max,args,ats⟩,tt,p,af,g⟩ σ=true:=chk_other (by rfl)
end
theorem Hc:type_of% @planWH_nil∧type_of% @planWH_take∧type_of% @planWH_three∧type_of% @planWH_both∧type_of% @stepH_t∧type_of% @stepH_f∧type_of% @callVD_fn∧type_of% @opGd_call∧type_of% @chk_q∧type_of% @chk_load∧type_of% @chk_fieldAddr∧type_of% @chk_nilCheck∧type_of% @chk_indexAddr∧type_of% @chk_len∧type_of% @ptF_ptr∧type_of% @ptF_ref∧type_of% @ptF_lit∧type_of% @ptF_tree∧type_of% @ptF_taddr∧type_of% @ptF_agg∧type_of% @ptF_tup∧type_of% @ptF_undef∧type_of% @chk_move∧type_of% @chk_assign∧type_of% @chk_pick∧type_of% @chk_binOp∧type_of% @chk_unOp∧type_of% @chk_makeFunc∧type_of% @chk_field∧type_of% @chk_extract∧type_of% @chk_build∧type_of% @chk_alloc∧type_of% @chk_box∧type_of% @chk_makeSlice∧type_of% @chk_buildSlice∧type_of% @chk_store∧type_of% @chk_call∧type_of% @chk_append∧type_of% @chk_min∧type_of% @chk_max :=
  ⟨@planWH_nil,@planWH_take,@planWH_three,@planWH_both,@stepH_t,@stepH_f,@callVD_fn,@opGd_call,@chk_q,@chk_load,@chk_fieldAddr,@chk_nilCheck,@chk_indexAddr,@chk_len,@ptF_ptr,@ptF_ref,@ptF_lit,@ptF_tree,@ptF_taddr,@ptF_agg,@ptF_tup,@ptF_undef,@chk_move,@chk_assign,@chk_pick,@chk_binOp,@chk_unOp,@chk_makeFunc,@chk_field,@chk_extract,@chk_build,@chk_alloc,@chk_box,@chk_makeSlice,@chk_buildSlice,@chk_store,@chk_call,@chk_append,@chk_min,@chk_max⟩
theorem callD_of {hh:Nat} {f:FuncId} {args cargs:List AV} {D D':Ob} {dst:Option Tmp} {K:St→Prop} {res:AV} (h:Holds P f cargs [D] res [D']) (h1:noRefO D=true) (h2:noRefO D'=true) (h3:σ.objs[hh]?=some D) (h4:noRef res=true)
    (h5:ArgsR (ArgD hh) cargs args) (hK:K ((⟨σ.env,σ.objs.set hh D'⟩:St).put dst res)):callD P hh f args dst K σ:=⟨cargs,D,res,D',h,h1,h2,h3,h4,h5,hK⟩
theorem W_region_ce {P:Program} {N n0:Nat} {σ:St} {Q:Exit→St→Prop} (n:Nat) {id:Nat} {ops:Array Oper} (hd:dstOK N ops=true) (o:Oper) (ho:ops[n]?=some o)
    (h:∀ K:St→Prop,(∀ s,Q .normal s→K s)→opsL P ops (ops.toList.take n) (callO P o (opsL P ops (ops.toList.drop (n+1)) K)) σ):W P N n0 (.region id ops false) Q σ:=by
  intro os γ0 a w hn hok
  refine wp_region ?_
  have hn':n<ops.size:=(Array.getElem?_eq_some_iff.1 ho).1
  have e:List.range ops.size=List.range' 0 (ops.toList.take n).length++(n::List.range' (n+1) (ops.toList.drop (n+1)).length):=by
    rw[List.range_eq_range',← List.range'_succ]
    have:=List.range'_append (s:=0) (m:=n) (n:=(ops.toList.drop (n+1)).length+1) (step:=1)
    simp only[Nat.zero_add,Nat.one_mul] at this
    rw[show (ops.toList.take n).length=n by simp;omega,this]
    congr 1
    simp;omega
  rw[e]
  refine wpOps_app _ a w ?_
  refine opsL_soundP (dstOK_spec hd) (K:=callO P o (opsL P ops (ops.toList.drop (n+1)) (Q .normal))) (fun σ' a' w' hk hok'=>?_) (ops.toList.take n) 0 σ a w (fun k hk=>?_) (h _ (fun _ h=>h)) hok
  · show wpOps P ops _ _ a' w'
    rw[wpOps_cons]
    unfold wpOp
    simp only[ho]
    have hw:Region.wanted o (yielded ops a'.tmps)=true:=by simp[Region.wanted,hk.1]
    rw[if_pos hw]
    left
    refine callO_sound hk hok' (dstOK_spec hd o (List.mem_of_getElem? (by simpa using ho))) (fun σ2 a2 w2 hk2 hok2=>?_)
    refine opsL_soundP (dstOK_spec hd) (K:=Q .normal) (fun σ3 a3 w3 hk3 hok3=>⟨σ3,hk3,hok3⟩) (ops.toList.drop (n+1)) (n+1) σ2 a2 w2 (fun k hk=>?_) hk2 hok2
    rw[List.getElem?_drop]
    simp
  · simp only[List.length_take,Array.length_toList] at hk
    rw[List.getElem?_take_of_lt (by omega)]
    simp
end Go.Am

