import Derived.Test.YtafhoboejkcmiaaGreatX05
set_option linter.unusedVariables false
set_option linter.unusedSimpArgs false
set_option linter.unnecessarySimpa false
set_option linter.unusedSectionVars false
set_option maxHeartbeats 64000000
set_option maxRecDepth 20000
namespace Go.Am
theorem LKc:type_of% @upd_app∧type_of% @slots_cons∧type_of% @clr_app∧type_of% @List.contains_cons.{0}∧type_of% @List.contains_nil.{0}∧type_of% @Bool.or_self∧type_of% @Bool.or_false∧type_of% @Bool.false_or∧type_of% @Bool.or_true∧type_of% @Bool.true_or∧type_of% @Bool.false_eq_true∧type_of% @if_false.{1}∧type_of% @if_true.{1}∧type_of% @List.getD_cons_zero.{0}∧type_of% @List.getD_cons_succ.{0}∧type_of% @List.getD_nil.{0} :=
  ⟨@upd_app,@slots_cons,@clr_app,@List.contains_cons.{0},@List.contains_nil.{0},@Bool.or_self,@Bool.or_false,@Bool.false_or,@Bool.or_true,@Bool.true_or,@Bool.false_eq_true,@if_false.{1},@if_true.{1},@List.getD_cons_zero.{0},@List.getD_cons_succ.{0},@List.getD_nil.{0}⟩
theorem Bc:type_of% @upd_app∧type_of% @slots_cons∧type_of% @clr_app∧type_of% @List.contains_cons.{0}∧type_of% @List.contains_nil.{0}∧type_of% @Bool.or_self∧type_of% @Bool.or_false∧type_of% @Bool.false_or∧type_of% @Bool.or_true∧type_of% @Bool.true_or∧type_of% @Bool.false_eq_true∧type_of% @if_false.{1}∧type_of% @if_true.{1}∧type_of% @List.getD_cons_zero.{0}∧type_of% @List.getD_cons_succ.{0}∧type_of% @List.getD_nil.{0}∧type_of% @List.size_toArray.{0}∧type_of% @Array.size_empty.{0}∧type_of% @i64min∧type_of% @i64max∧type_of% @eq_self.{1}∧type_of% @opsL_nil∧type_of% @opsL_cons∧type_of% @opG_nilCheck∧type_of% @opG_fieldAddr∧type_of% @opG_indexAddr∧type_of% @opG_call∧type_of% @opG_move∧type_of% @opG_assign∧type_of% @opG_pick∧type_of% @opG_alloc∧type_of% @opG_box∧type_of% @opG_build∧type_of% @opG_buildSlice∧type_of% @opG_load∧type_of% @opG_store∧type_of% @opG_binOp∧type_of% @opG_unOp∧type_of% @opG_makeFunc∧type_of% @opG_makeSlice∧type_of% @opG_slice∧type_of% @opG_field∧type_of% @opG_extract∧type_of% @opG_b_len∧type_of% @opG_b_append∧type_of% @opG_b_min∧type_of% @opG_b_max∧type_of% @opG_b_copy∧type_of% @opG_convert∧type_of% @andK_i64∧type_of% @opGm_call∧type_of% @opGm_no∧type_of% @liveO_var∧type_of% @liveO_arr∧type_of% @true_and∧type_of% @and_true∧type_of% @and_self∧type_of% @List.map_cons.{0,0}∧type_of% @List.map_nil.{0,0}∧type_of% @List.cons_append.{0}∧type_of% @List.nil_append.{0}∧type_of% @List.append_nil.{0}∧type_of% @ite_true.{1}∧type_of% @ite_false.{1}∧type_of% @Bool.true_eq_false∧type_of% @ne_eq.{1}∧type_of% @not_true_eq_false∧type_of% @not_false_eq_true∧type_of% @false_implies∧type_of% @true_implies∧type_of% @implies_true.{1}∧type_of% @Option.bind_some.{0,0}∧type_of% @Option.bind_none.{0,0}∧type_of% @List.getElem?_cons_zero.{0}∧type_of% @List.getElem?_cons_succ.{0}∧type_of% @List.getElem?_toArray.{0}∧type_of% @List.length_cons.{0}∧type_of% @List.length_nil.{0}∧type_of% @Nat.zero_add∧type_of% @Nat.add_zero∧type_of% @decide_true∧type_of% @decide_false∧type_of% @List.all_cons.{0}∧type_of% @List.all_nil.{0}∧type_of% @Bool.and_true∧type_of% @Bool.true_and∧type_of% @Int.toNat_zero∧type_of% @Bool.not_true∧type_of% @Bool.not_false∧type_of% @cond_true.{1}∧type_of% @cond_false.{1}∧type_of% @guardK_tt∧type_of% @guardK_tf∧type_of% @guardK_ft∧type_of% @guardK_ff∧type_of% @guardM_tt∧type_of% @guardM_tf∧type_of% @guardM_ft∧type_of% @guardM_ff∧type_of% @planW_take∧type_of% @planW_nil∧type_of% @Int.toNat_natCast∧type_of% @range1∧type_of% @range2∧type_of% @range3∧type_of% @ints_take∧type_of% @bools_take∧type_of% @intss_take∧type_of% @Nat.zero_mul∧type_of% @Nat.mul_one∧type_of% @Nat.one_mul∧type_of% @renO_var∧type_of% @renO_gone'∧type_of% @ints_ren∧type_of% @bools_ren∧type_of% @intss_ren∧type_of% @Option.map_some.{0,0}∧type_of% @List.drop_zero.{0}∧type_of% @List.drop_succ_cons.{0}∧type_of% @List.take_succ_cons.{0}∧type_of% @List.take_zero.{0}∧type_of% @List.set_cons_zero.{0}∧type_of% @List.set_cons_succ.{0}∧type_of% @beq_self_eq_true.{0}∧type_of% @List.flatMap_cons.{0,0}∧type_of% @List.flatMap_nil.{0,0}∧type_of% @List.getElem?_nil.{0}∧type_of% @List.length_append.{0}∧type_of% @List.length_set.{0}∧type_of% @List.length_replicate.{0}∧type_of% @ints_length∧type_of% @bools_length∧type_of% @intss_length∧type_of% @ints_getD∧type_of% @bools_getD∧type_of% @intss_getD∧type_of% @ints_get∧type_of% @bools_get∧type_of% @intss_get∧type_of% @ints_set∧type_of% @bools_set∧type_of% @ints_app∧type_of% @ints_app1∧type_of% @intss_app1∧type_of% @bools_app1∧type_of% @ints_rep∧type_of% @bools_rep∧type_of% @ints_scal∧type_of% @bools_scal∧type_of% @intss_scal :=
  ⟨@upd_app,@slots_cons,@clr_app,@List.contains_cons.{0},@List.contains_nil.{0},@Bool.or_self,@Bool.or_false,@Bool.false_or,@Bool.or_true,@Bool.true_or,@Bool.false_eq_true,@if_false.{1},@if_true.{1},@List.getD_cons_zero.{0},@List.getD_cons_succ.{0},@List.getD_nil.{0},@List.size_toArray.{0},@Array.size_empty.{0},@i64min,@i64max,@eq_self.{1},@opsL_nil,@opsL_cons,@opG_nilCheck,@opG_fieldAddr,@opG_indexAddr,@opG_call,@opG_move,@opG_assign,@opG_pick,@opG_alloc,@opG_box,@opG_build,@opG_buildSlice,@opG_load,@opG_store,@opG_binOp,@opG_unOp,@opG_makeFunc,@opG_makeSlice,@opG_slice,@opG_field,@opG_extract,@opG_b_len,@opG_b_append,@opG_b_min,@opG_b_max,@opG_b_copy,@opG_convert,@andK_i64,@opGm_call,@opGm_no,@liveO_var,@liveO_arr,@true_and,@and_true,@and_self,@List.map_cons.{0,0},@List.map_nil.{0,0},@List.cons_append.{0},@List.nil_append.{0},@List.append_nil.{0},@ite_true.{1},@ite_false.{1},@Bool.true_eq_false,@ne_eq.{1},@not_true_eq_false,@not_false_eq_true,@false_implies,@true_implies,@implies_true.{1},@Option.bind_some.{0,0},@Option.bind_none.{0,0},@List.getElem?_cons_zero.{0},@List.getElem?_cons_succ.{0},@List.getElem?_toArray.{0},@List.length_cons.{0},@List.length_nil.{0},@Nat.zero_add,@Nat.add_zero,@decide_true,@decide_false,@List.all_cons.{0},@List.all_nil.{0},@Bool.and_true,@Bool.true_and,@Int.toNat_zero,@Bool.not_true,@Bool.not_false,@cond_true.{1},@cond_false.{1},@guardK_tt,@guardK_tf,@guardK_ft,@guardK_ff,@guardM_tt,@guardM_tf,@guardM_ft,@guardM_ff,@planW_take,@planW_nil,@Int.toNat_natCast,@range1,@range2,@range3,@ints_take,@bools_take,@intss_take,@Nat.zero_mul,@Nat.mul_one,@Nat.one_mul,@renO_var,@renO_gone',@ints_ren,@bools_ren,@intss_ren,@Option.map_some.{0,0},@List.drop_zero.{0},@List.drop_succ_cons.{0},@List.take_succ_cons.{0},@List.take_zero.{0},@List.set_cons_zero.{0},@List.set_cons_succ.{0},@beq_self_eq_true.{0},@List.flatMap_cons.{0,0},@List.flatMap_nil.{0,0},@List.getElem?_nil.{0},@List.length_append.{0},@List.length_set.{0},@List.length_replicate.{0},@ints_length,@bools_length,@intss_length,@ints_getD,@bools_getD,@intss_getD,@ints_get,@bools_get,@intss_get,@ints_set,@bools_set,@ints_app,@ints_app1,@intss_app1,@bools_app1,@ints_rep,@bools_rep,@ints_scal,@bools_scal,@intss_scal⟩
theorem DEc:type_of% @eq_self.{1}∧type_of% @decide_eq_true_eq∧type_of% @decide_eq_false_iff_not∧type_of% @Bool.not_eq_true'∧type_of% @Bool.not_eq_false'∧type_of% @beq_iff_eq.{0}∧type_of% @beq_eq_false_iff_ne.{0}∧type_of% @bne_iff_ne.{0}∧type_of% @bne_eq_false_iff_eq.{0}∧type_of% @ne_eq.{1}∧type_of% @Decidable.not_not∧type_of% @Int.not_lt∧type_of% @Int.not_le∧type_of% @not_true_eq_false∧type_of% @not_false_eq_true∧type_of% @Bool.or_eq_true∧type_of% @Bool.and_eq_true∧type_of% @Bool.or_eq_false_iff∧type_of% @Bool.and_eq_false_iff∧type_of% @gt_iff_lt.{0}∧type_of% @ge_iff_le.{0}∧type_of% @Int.ofNat_lt∧type_of% @Int.ofNat_le∧type_of% @Int.ofNat_inj∧type_of% @Nat.not_lt∧type_of% @Nat.not_le∧type_of% @ints_length∧type_of% @bools_length∧type_of% @intss_length∧type_of% @cond_true.{1}∧type_of% @cond_false.{1} :=
  ⟨@eq_self.{1},@decide_eq_true_eq,@decide_eq_false_iff_not,@Bool.not_eq_true',@Bool.not_eq_false',@beq_iff_eq.{0},@beq_eq_false_iff_ne.{0},@bne_iff_ne.{0},@bne_eq_false_iff_eq.{0},@ne_eq.{1},@Decidable.not_not,@Int.not_lt,@Int.not_le,@not_true_eq_false,@not_false_eq_true,@Bool.or_eq_true,@Bool.and_eq_true,@Bool.or_eq_false_iff,@Bool.and_eq_false_iff,@gt_iff_lt.{0},@ge_iff_le.{0},@Int.ofNat_lt,@Int.ofNat_le,@Int.ofNat_inj,@Nat.not_lt,@Nat.not_le,@ints_length,@bools_length,@intss_length,@cond_true.{1},@cond_false.{1}⟩
end Go.Am
namespace Go.Am
variable {σ:St}
class Row {α:Type} (enc:α→List AV) (sz:outParam Nat):Prop where
  wid:∀ x,(enc x).length=sz
  ok:∀ x,∀ v∈enc x,(∃ y,v=.lit y∧y.oneCell'=true)∨∃ s r,v=.tree s r
def rowsOf {α:Type} (enc:α→List AV) (xs:List α):List (List AV):=xs.map enc
section
variable {α:Type} {enc:α→List AV} {sz:Nat}
theorem rows_length (xs:List α):(rowsOf enc xs).length=xs.length:=by simp[rowsOf]
theorem rows_getD [Inhabited α] (xs:List α) (i:Nat) (h:i<xs.length):(rowsOf enc xs).getD i []=enc (xs.getD i default):=by simp[rowsOf,h]
theorem rows_get [Inhabited α] (xs:List α) (i:Nat) (h:i<xs.length):(rowsOf enc xs)[i]?=some (enc (xs.getD i default)):=by simp[rowsOf,h]
theorem rows_take (xs:List α):(rowsOf enc xs).take xs.length=rowsOf enc xs:=by rw[List.take_of_length_le (by simp[rowsOf])]
theorem rows_app (xs ys:List α):rowsOf enc xs++rowsOf enc ys=rowsOf enc (xs++ys):=by simp[rowsOf]
theorem rows_app1 (xs:List α) (x:α):rowsOf enc xs++[enc x]=rowsOf enc (xs++[x]):=by simp[rowsOf]
theorem rows_set (xs:List α) (i:Nat) (x:α):(rowsOf enc xs).set i (enc x)=rowsOf enc (xs.set i x):=by simp[rowsOf,List.map_set]
theorem row_scal [Row enc sz] (x:α):(enc x).all scal=true:=by
  rw[List.all_eq_true]
  intro v hv
  rcases Row.ok (enc:=enc) x v hv with ⟨y,rfl,h⟩ | ⟨s,r,rfl⟩
  · simpa [scal] using h
  · rfl
theorem rows_scal [Row enc sz] (xs:List α):((rowsOf enc xs).all fun row=>row.all scal)=true:=by
  simp only[rowsOf,List.all_map,List.all_eq_true]
  intro x _
  exact row_scal (enc:=enc) x
theorem noRefL_of {l:List AV} (h:∀ v∈l,noRef v=true):noRefL l=true:=by
  induction l with
  | nil=>rfl
  | cons v l ih=>simp only[noRefL,Bool.and_eq_true];exact⟨h v (by simp),ih fun x hx=>h x (by simp[hx])⟩
theorem row_noRef [Row enc sz] (x:α):noRefL (enc x)=true:=noRefL_of fun v hv=>by
  rcases Row.ok (enc:=enc) x v hv with ⟨y,rfl,_⟩ | ⟨s,r,rfl⟩<;>rfl
theorem rows_ren [Row enc sz] (ρ:Nat→Nat) (s:Nat) (xs:List α):renO ρ (.arr s (rowsOf enc xs))=.arr s (rowsOf enc xs):=renO_noRef (by
  intro row hr
  simp only[rowsOf,List.mem_map] at hr
  obtain ⟨x,_,rfl⟩:=hr
  exact row_noRef (enc:=enc) x)
theorem rows_frz [Row enc sz] (xs:List α):∀ row∈rowsOf enc xs,∀ v∈row,(∃ x,v=AV.lit x)∨∃ s r,v=AV.tree s r:=by
  intro row hr v hv
  simp only[rowsOf,List.mem_map] at hr
  obtain ⟨x,_,rfl⟩:=hr
  rcases Row.ok (enc:=enc) x v hv with ⟨y,rfl,_⟩ | h
  · exact .inl ⟨_,rfl⟩
  · exact .inr h
theorem rows_wid [Row enc sz] (xs:List α):∀ row∈rowsOf enc xs,row.length=sz:=by
  intro row hr
  simp only[rowsOf,List.mem_map] at hr
  obtain ⟨x,_,rfl⟩:=hr
  exact Row.wid (enc:=enc) x
end
structure Opt where
  wk:Int
  day:Int
  st:Int
  len:Int
  room:Int
  ch:List (Int × Int)
  deriving Inhabited
structure Pr where
  fst:Int
  snd:Int
  rule:Int
  tab:List Int
  deriving Inhabited
structure Ld where
  cls:Int
  opt:Int
  wt:Int
  deriving Inhabited
structure Ct where
  rule:Int
  loads:List Ld
  most:Int
  pen:Int
  deriving Inhabited
structure Mdl where
  cls:List (List Opt)
  prs:List Pr
  cts:List Ct
  rules:Int
  deriving Inhabited
def i64 (n:Int):AV:=.lit (.int .i64 n)
def eCh (c:Int × Int):List AV:=[.lit (.int .i64 c.1),.lit (.int .i64 c.2)]
def eOpt (o:Opt):List AV:=[.lit (.int .i64 o.wk),.lit (.int .i64 o.day),.lit (.int .i64 o.st),.lit (.int .i64 o.len),.lit (.int .i64 o.room),.tree 2 (rowsOf eCh o.ch)]
def eCls (l:List Opt):List AV:=[.tree 6 (rowsOf eOpt l)]
def ePr (p:Pr):List AV:=[.lit (.int .i64 p.fst),.lit (.int .i64 p.snd),.lit (.int .i64 p.rule),.tree 1 (ints p.tab)]
def eLd (l:Ld):List AV:=[.lit (.int .i64 l.cls),.lit (.int .i64 l.opt),.lit (.int .i64 l.wt)]
def eCt (c:Ct):List AV:=[.lit (.int .i64 c.rule),.tree 3 (rowsOf eLd c.loads),.lit (.int .i64 c.most),.lit (.int .i64 c.pen)]
def eMdl (m:Mdl):List AV:=[.tree 1 (rowsOf eCls m.cls),.tree 4 (rowsOf ePr m.prs),.tree 4 (rowsOf eCt m.cts),.lit (.int .i64 m.rules)]
theorem rowOk {l:List AV} (h:(l.all fun v=>match v with | .lit y=>y.oneCell' | .tree ..=>true | _=>false)=true):∀ v∈l,(∃ y,v=AV.lit y∧y.oneCell'=true)∨∃ s r,v=AV.tree s r:=by
  intro v hv
  have:=List.all_eq_true.1 h v hv
  cases v<;>simp at this
  · exact .inl ⟨_,rfl,this⟩
  · exact .inr ⟨_,_,rfl⟩
instance:Row eCh 2:=⟨fun _=>rfl,fun _=>rowOk rfl⟩
instance:Row eOpt 6:=⟨fun _=>rfl,fun _=>rowOk rfl⟩
instance:Row eCls 1:=⟨fun _=>rfl,fun _=>rowOk rfl⟩
instance:Row ePr 4:=⟨fun _=>rfl,fun _=>rowOk rfl⟩
instance:Row eLd 3:=⟨fun _=>rfl,fun _=>rowOk rfl⟩
instance:Row eCt 4:=⟨fun _=>rfl,fun _=>rowOk rfl⟩
instance:Row eMdl 4:=⟨fun _=>rfl,fun _=>rowOk rfl⟩
end Go.Am
namespace Go.Am
variable {P:Program} {N n0:Nat} {σ:St} {Q:Exit→St→Prop}
def opsLQ (P:Program) (ops:Array Oper) (qs:List Nat):Nat→List Oper→(St→Prop)→St→Prop
  | _,[],K,σ=>K σ
  | i,o::r,K,σ=>stepD P ops (qs.contains i) o (opsLQ P ops qs (i+1) r K) σ
theorem opsLQ_nil {ops:Array Oper} {qs:List Nat} {i:Nat} {K:St→Prop}:opsLQ P ops qs i [] K σ=K σ:=by simp only[opsLQ]
theorem opsLQ_cons {ops:Array Oper} {qs:List Nat} {i:Nat} {o:Oper} {r:List Oper} {K:St→Prop}:opsLQ P ops qs i (o::r) K σ=stepD P ops (qs.contains i) o (opsLQ P ops qs (i+1) r K) σ:=by simp only[opsLQ]
theorem planW_seqQ {ops:Array Oper} {qs:List Nat} {K:St→Prop}:∀ (l:List Oper) (i:Nat) (σ:St),ops.toList.drop i=l→opsLQ P ops qs i l K σ→planW P ops qs (seqP (List.range' i l.length)) K σ
  | [],i,σ,_,h=>h
  | o::r,i,σ,hl,h=>by
    have hi:ops[i]?=some o:=by
      have:(ops.toList.drop i)[0]?=some o:=by rw[hl];rfl
      simpa using this
    have hr:ops.toList.drop (i+1)=r:=by
      have:=congrArg List.tail hl
      simpa [List.tail_drop] using this
    rw[List.length_cons,List.range'_succ]
    show stepAt P ops qs i (planW P ops qs (seqP (List.range' (i+1) r.length)) K) σ
    unfold stepAt
    simp only[hi]
    have hm:∀ s,opsLQ P ops qs (i+1) r K s→planW P ops qs (seqP (List.range' (i+1) r.length)) K s:=fun s hs=>planW_seqQ r (i+1) s hr hs
    exact stepD_mono hm h
def inTextQ (ops:Array Oper) (qs:List Nat):Bool:=(seqP (List.range ops.size)).ok ops qs ops.size (Array.replicate ops.size false)
theorem W_draw_q {id:Nat} {ops:Array Oper} {y:Code} (qs:List Nat) (hm:P.follows .mixedOrders=true) (hd:dstOK N ops=true) (ht:inTextQ ops qs=true) (h:∀ K:St→Prop,(∀ s,W P N n0 y Q s→K s)→opsLQ P ops qs 0 ops.toList K σ) :
    W P N n0 (.seq (.region id ops true) y) Q σ :=
  W_draw_k qs _ hm hd ht fun K hK=>by
    have:=planW_seqQ (P:=P) (ops:=ops) (qs:=qs) ops.toList 0 σ rfl (h K hK)
    rw[List.range_eq_range']
    simpa using this
theorem W_draw_qe {id:Nat} {ops:Array Oper} (qs:List Nat) (hm:P.follows .mixedOrders=true) (hd:dstOK N ops=true) (ht:inTextQ ops qs=true) (h:∀ K:St→Prop,(∀ s,Q .normal s→K s)→opsLQ P ops qs 0 ops.toList K σ) :
    W P N n0 (.region id ops true) Q σ :=
  W_draw qs _ hm hd ht (by
    have:=planW_seqQ (P:=P) (ops:=ops) (qs:=qs) ops.toList 0 σ rfl (h _ (fun _ h=>h))
    rw[List.range_eq_range']
    simpa using this)
theorem callQ_pure {f:FuncId} {args:List AV} {dst:Option Tmp} {K:St→Prop} {res:AV} (h:Holds P f args [] res []) (ha:noRefL args=true) (hr:noRef res=true) (hK:K (σ.put dst res)):callQ P f args dst K σ :=
  ⟨res,h,ha,hr,hK⟩
end Go.Am

