import Derived.Test.YtmhloinjpcabcaaGreatX08
set_option linter.unusedVariables false
set_option linter.unusedSimpArgs false
set_option linter.unnecessarySimpa false
set_option linter.unusedSectionVars false
set_option maxHeartbeats 64000000
set_option maxRecDepth 20000
namespace Go.Am
variable {σ:St}
class Row {α:Type} (enc:α→List AV) (sz:outParam Nat):Prop where
  wid:∀ x,(enc x).length=sz
  ok:∀ x,∀ v∈enc x,(∃ y,v=.lit y∧y.oneCell'=true)∨∃ s r,v=.tree s r
def rowsOf {α:Type} (enc:α→List AV) (xs:List α):List (List AV):=xs.map enc
section
variable {α:Type} {enc:α→List AV} {sz:Nat}
theorem rows_length (xs:List α):(rowsOf enc xs).length=xs.length:=by simp[rowsOf]
theorem rows_getD [Inhabited α] (xs:List α) (i:Nat) (h:i<xs.length):(rowsOf enc xs).getD i []=enc (xs.getD i default):=by simp[rowsOf,h]
theorem rows_get [Inhabited α] (xs:List α) (i:Nat) (h:i<xs.length):(rowsOf enc xs)[i]?=some (enc (xs.getD i default)):=by simp[rowsOf,h]
theorem rows_take (xs:List α):(rowsOf enc xs).take xs.length=rowsOf enc xs:=by rw[List.take_of_length_le (by simp[rowsOf])]
theorem rows_app (xs ys:List α):rowsOf enc xs++rowsOf enc ys=rowsOf enc (xs++ys):=by simp[rowsOf]
theorem rows_app1 (xs:List α) (x:α):rowsOf enc xs++[enc x]=rowsOf enc (xs++[x]):=by simp[rowsOf]
theorem rows_set (xs:List α) (i:Nat) (x:α):(rowsOf enc xs).set i (enc x)=rowsOf enc (xs.set i x):=by simp[rowsOf,List.map_set]
theorem row_scal [Row enc sz] (x:α):(enc x).all scal=true:=by
  rw[List.all_eq_true]
  intro v hv
  rcases Row.ok (enc:=enc) x v hv with ⟨y,rfl,h⟩ | ⟨s,r,rfl⟩
  · simpa [scal] using h
  · rfl
theorem rows_scal [Row enc sz] (xs:List α):((rowsOf enc xs).all fun row=>row.all scal)=true:=by
  simp only[rowsOf,List.all_map,List.all_eq_true]
  intro x _
  exact row_scal (enc:=enc) x
theorem noRefL_of {l:List AV} (h:∀ v∈l,noRef v=true):noRefL l=true:=by
  induction l with
  | nil=>rfl
  | cons v l ih=>simp only[noRefL,Bool.and_eq_true];exact⟨h v (by simp),ih fun x hx=>h x (by simp[hx])⟩
theorem row_noRef [Row enc sz] (x:α):noRefL (enc x)=true:=noRefL_of fun v hv=>by
  rcases Row.ok (enc:=enc) x v hv with ⟨y,rfl,_⟩ | ⟨s,r,rfl⟩<;>rfl
theorem rows_ren [Row enc sz] (ρ:Nat→Nat) (s:Nat) (xs:List α):renO ρ (.arr s (rowsOf enc xs))=.arr s (rowsOf enc xs):=renO_noRef (by
  intro row hr
  simp only[rowsOf,List.mem_map] at hr
  obtain ⟨x,_,rfl⟩:=hr
  exact row_noRef (enc:=enc) x)
theorem rows_frz [Row enc sz] (xs:List α):∀ row∈rowsOf enc xs,∀ v∈row,(∃ x,v=AV.lit x)∨∃ s r,v=AV.tree s r:=by
  intro row hr v hv
  simp only[rowsOf,List.mem_map] at hr
  obtain ⟨x,_,rfl⟩:=hr
  rcases Row.ok (enc:=enc) x v hv with ⟨y,rfl,_⟩ | h
  · exact .inl ⟨_,rfl⟩
  · exact .inr h
theorem rows_wid [Row enc sz] (xs:List α):∀ row∈rowsOf enc xs,row.length=sz:=by
  intro row hr
  simp only[rowsOf,List.mem_map] at hr
  obtain ⟨x,_,rfl⟩:=hr
  exact Row.wid (enc:=enc) x
end
structure Opt where
  wk:Int
  day:Int
  st:Int
  len:Int
  room:Int
  ch:List (Int × Int)
  deriving Inhabited
structure Pr where
  fst:Int
  snd:Int
  rule:Int
  tab:List Int
  deriving Inhabited
structure Ld where
  cls:Int
  opt:Int
  wt:Int
  deriving Inhabited
structure Ct where
  rule:Int
  loads:List Ld
  most:Int
  pen:Int
  deriving Inhabited
structure Mdl where
  cls:List (List Opt)
  prs:List Pr
  cts:List Ct
  rules:Int
  deriving Inhabited
def i64 (n:Int):AV:=.lit (.int .i64 n)
def eCh (c:Int × Int):List AV:=[.lit (.int .i64 c.1),.lit (.int .i64 c.2)]
def eOpt (o:Opt):List AV:=[.lit (.int .i64 o.wk),.lit (.int .i64 o.day),.lit (.int .i64 o.st),.lit (.int .i64 o.len),.lit (.int .i64 o.room),.tree 2 (rowsOf eCh o.ch)]
def eCls (l:List Opt):List AV:=[.tree 6 (rowsOf eOpt l)]
def ePr (p:Pr):List AV:=[.lit (.int .i64 p.fst),.lit (.int .i64 p.snd),.lit (.int .i64 p.rule),.tree 1 (ints p.tab)]
def eLd (l:Ld):List AV:=[.lit (.int .i64 l.cls),.lit (.int .i64 l.opt),.lit (.int .i64 l.wt)]
def eCt (c:Ct):List AV:=[.lit (.int .i64 c.rule),.tree 3 (rowsOf eLd c.loads),.lit (.int .i64 c.most),.lit (.int .i64 c.pen)]
def eMdl (m:Mdl):List AV:=[.tree 1 (rowsOf eCls m.cls),.tree 4 (rowsOf ePr m.prs),.tree 4 (rowsOf eCt m.cts),.lit (.int .i64 m.rules)]
theorem rowOk {l:List AV} (h:(l.all fun v=>match v with | .lit y=>y.oneCell' | .tree ..=>true | _=>false)=true):∀ v∈l,(∃ y,v=AV.lit y∧y.oneCell'=true)∨∃ s r,v=AV.tree s r:=by
  intro v hv
  have:=List.all_eq_true.1 h v hv
  cases v<;>simp at this
  · exact .inl ⟨_,rfl,this⟩
  · exact .inr ⟨_,_,rfl⟩
instance:Row eCh 2:=⟨fun _=>rfl,fun _=>rowOk rfl⟩
instance:Row eOpt 6:=⟨fun _=>rfl,fun _=>rowOk rfl⟩
instance:Row eCls 1:=⟨fun _=>rfl,fun _=>rowOk rfl⟩
instance:Row ePr 4:=⟨fun _=>rfl,fun _=>rowOk rfl⟩
instance:Row eLd 3:=⟨fun _=>rfl,fun _=>rowOk rfl⟩
instance:Row eCt 4:=⟨fun _=>rfl,fun _=>rowOk rfl⟩
instance:Row eMdl 4:=⟨fun _=>rfl,fun _=>rowOk rfl⟩
end Go.Am
namespace Go.Am
variable {P:Program}
variable {N n0:Nat} {Q:Exit→St→Prop} {σ:St}
def retR (P:Program) (n0:Nat) (rs:List ResultVar) (Post:AV→List Ob→Prop):Exit→St→Prop
  | .normal,s=>resW s P rs fun vs=>∃ res objs',Post res objs'∧RetOK n0 s (retV vs) res objs'
  | .ret,s=>resW s P rs fun vs=>∃ res objs',Post res objs'∧RetOK n0 s (retV vs) res objs'
  | _,_=>False
theorem HoldsR.of_body {f : FuncId} {fn : Func} {c : Code} {args : List AV} {objs : List Ob} {Post : AV → List Ob → Prop} (hf : P.funcs[f]? = some fn) (hb : fn.body = some c) (hname : (fn.name == "runtime.NumGoroutine") = false)
    (hN:args.length≤fn.ntmps) (h:W P fn.ntmps objs.length c (retR P objs.length fn.results.toList Post) ⟨fun k=>args.getD k .undef,objs⟩):HoldsR P f args objs Post:=by
  refine⟨⟨fn,hf,hname,by rw[hb];rfl⟩,?_⟩
  intro γ hsz hs
  refine calls_of_wp hf hb ?_
  let tm:=γ.tmps++Array.replicate (fn.ntmps - γ.tmps.size) Go.undef
  have hok:Okay fn.ntmps objs γ ⟨fun k=>args.getD k .undef,objs⟩ { tmps:=tm,defers:=[] } γ.w:=by
    refine⟨rfl,by simp[tm];omega,{ γ with tmps:=tm },rfl,rfl,⟨fun k=>?_,hs.obs,hs.inj,hs.nz,hs.zlt⟩,(Fr.refl _ _).put _⟩
    rcases Nat.lt_or_ge k args.length with hk | hk
    · have:=hs.slots k
      have e:tm.getD k Go.undef=γ.tmps.getD k Go.undef:=by
        simp only[tm,Array.getD_eq_getD_getElem?]
        rw[Array.getElem?_append_left (by omega)]
      show RelV _ _ _ _ _ (tm.getD k Go.undef)
      rw[e];exact this
    · have e:args.getD k AV.undef=.undef:=by simp[hk]
      show RelV _ _ _ _ (args.getD k .undef) _
      rw[e];exact .undef _
  refine wp_mono (h objs γ _ γ.w rfl hok) ?_
  rintro e a' w' ⟨σ',h1,hdf,_,γ',rfl,ha,hs',hf'⟩
  have fin:∀ (K:List AV→Prop),resW σ' P fn.results.toList K→(∀ vs,K vs→∃ res objs',Post res objs'∧RetOK objs.length σ' (retV vs) res objs') →
      a'.defers=[]∧∃ v,(results fn a'.tmps).run P γ'.w=.ok v γ'.w∧∃ res objs' cv γ'',Post res objs'∧Ending.returned v=.returned cv∧γ''.w=γ'.w∧γ''.tmps = #[cv]∧Sim ⟨fun k=>[res].getD k .undef,objs'⟩ γ''∧Fr objs γ objs' γ'':=by
    intro K hK hKR
    obtain ⟨vs,cvs,k1,k2,k3,k4,k5⟩:=resW_sound hs' _ _ hK
    obtain ⟨res,objs',hpost,sel,snap,r1,r2,r3,r4,r5,r6,r7⟩:=hKR vs k1
    refine⟨hdf,?_⟩
    have hrun :∃v,(results fn a'.tmps).run P γ'.w=.ok v γ'.w∧RelV σ'.objs γ'.w γ'.Z γ'.blk (retV vs) v:=by
      have hm:(fn.results.mapM fun (r:ResultVar)=>match r with | .tmp t=>(pure (a'.tmps.getD t Go.undef):Sem Value) | .cell a t=>do loadVar t (← asAddr (a'.tmps.getD a Go.undef))).run P γ'.w=.ok cvs.toArray γ'.w:=by
        rw[Array.mapM_eq_mapM_toList,Sem.run_map,← ha]
        exact congrArg (fun (r:Result (List Value))=>r.andThen fun a w'=>Result.ok a.toArray w') k2
      have hr:(results fn a'.tmps).run P γ'.w=.ok (if h:cvs.toArray.size=1 then cvs.toArray[0] else .tuple cvs.toArray) γ'.w:=by
        unfold results
        rw[Sem.run_bind]
        exact congrArg (fun r=>Result.andThen r fun (a:Array Value) w'=>(pure (if h:a.size=1 then a[0] else Value.tuple a):Sem Value).run P w') hm
      rw[hr]
      match vs,cvs,k3,k5 with
      | [],[],_,k5=>exact⟨_,rfl,.tup _ _ rfl (fun j x hj=>by simp at hj)⟩
      | [v],[cv],_,k5=>exact⟨cv,by simp,by simpa [retV] using k5 0 v rfl⟩
      | v::v'::vs,cv::cv'::cvs,k3,k5 =>
        refine⟨.tuple (cv::cv'::cvs).toArray,by simp,.tup _ _ (by simpa using k3) (fun j x hj=>?_)⟩
        have:=k5 j x hj
        simpa [List.getD_eq_getElem?_getD,Array.getD_eq_getD_getElem?] using this
    obtain ⟨v,hv1,hv2⟩:=hrun
    obtain ⟨γ'',e1,e2,e3,e4⟩:=hs'.select sel snap objs' r1 r2 r3 r4 (fun k=>[res].getD k .undef) #[v] (fun k=>by
      cases k with
      | zero=>exact .inr ⟨_,r7,by simpa using hv2⟩
      | succ k=>left;simp)
    exact⟨v,hv1,res,objs',v,γ'',hpost,rfl,e1,e2,e3,hf'.select r5 r2 r6 e1 e4⟩
  cases e with
  | normal=>exact fin _ h1 (fun _ h=>h)
  | ret=>exact fin _ h1 (fun _ h=>h)
  | exit id=>exact h1.elim
  | goto l=>exact h1.elim
  | panic c=>exact h1.elim
  | outgrown=>exact h1.elim
theorem HoldsR.of_body' {f : FuncId} {fn : Func} {c : Code} {args : List AV} {objs : List Ob} {Post : AV → List Ob → Prop} (N k : Nat) (rs : List ResultVar) (hf : P.funcs[f]? = some fn) (hb : fn.body = some c) (hname : (fn.name == "runtime.NumGoroutine") = false)
    (hN:fn.ntmps=N) (hrs:fn.results.toList=rs) (hk:objs.length=k) (hl:args.length≤N) (h:W P N k c (retR P k rs Post) ⟨fun k=>args.getD k .undef,objs⟩):HoldsR P f args objs Post:=by
  subst hN;subst hrs;subst hk
  exact HoldsR.of_body hf hb hname hl h
def callKR (P:Program) (g:FuncId) (args:List AV) (dst:Option Tmp) (K:St→Prop) (σ:St):Prop:=callWR P g args σ fun v σ'=>K (σ'.put dst v)
def callO (P:Program) (o:Oper) (K:St→Prop) (σ:St):Prop :=
  o.guard=none ∧
  match o.op with
  | .call { callee:=.value f,args,.. } =>
    match ev σ f with
    | .fn g caps=>callKR P g (args.toList.map (ev σ)++caps) o.dst K σ
    | _=>False
  | _=>False
theorem callO_sound {os:List Ob} {γ0:Cx} {o:Oper} {K:St→Prop} (h:callO P o K σ) {a:Act} {w:World} (hok:Okay N os γ0 σ a w) (hd:∀ d,o.dst=some d→d<N)
    {Q:Exit→Act→World→Prop} {next:Act→World→Prop} (hn:∀ σ' a' w',K σ'→Okay N os γ0 σ' a' w'→next a' w'):o.wp P a w next Q:=by
  obtain ⟨hdf,hsz,γ,rfl,ha,hs,hf⟩:=hok
  have hd':∀ d,o.dst=some d→d<a.tmps.size:=fun d h=>by rw[hsz];exact hd d h
  obtain ⟨_,h⟩:=h
  split at h
  · rename_i f args ats hop
    split at h
    · rename_i g caps he
      have hfr:=ev_rel hs ha f
      rw[he] at hfr
      obtain ⟨cvs,hcv,hcs,hcr⟩:=hfr.fn_inv
      have hargs:∀ (j:Nat) d,(args.toList.map (ev σ)++caps)[j]?=some d→RelV σ.objs γ.w γ.Z γ.blk d (((args.map a.eval)++cvs).getD j Go.undef):=by
        intro j d hj
        simp only[Array.getD_eq_getD_getElem?]
        rcases Nat.lt_or_ge j args.size with hlt | hge
        · rw[List.getElem?_append_left (by simpa using hlt)] at hj
          rw[Array.getElem?_append_left (by simpa using hlt)]
          simp only[List.getElem?_map,Array.getElem?_toList,Array.getElem?_map] at hj ⊢
          cases hx:args[j]? with
          | none=>simp[hx] at hj
          | some y=>simp[hx] at hj ⊢;subst hj;exact ev_rel hs ha y
        · rw[List.getElem?_append_right (by simpa using hge)] at hj
          rw[Array.getElem?_append_right (by simpa using hge)]
          simp only[List.length_map,Array.length_toList,Array.size_map] at hj ⊢
          have:=hcr _ d hj
          simpa [Array.getD_eq_getD_getElem?] using this
      unfold callKR at h
      have hcall:=call_soundR hs (argv:=(args.map a.eval)++cvs) (by simp[hcs]) hargs h
      obtain ⟨sel,snap,cargs,cobjs,Post,⟨⟨fn,hfn,hname,hbody⟩,_⟩,_⟩:=h
      unfold Oper.wp
      have hr:(execOp a.eval o).run P γ.w=.ok (.enter g ((args.map a.eval)++cvs)) γ.w:=by
        have hn1 : ¬ fn.name = "runtime.NumGoroutine" := by simpa using hname
        have hn2:¬ fn.body=none:=by intro e;rw[e] at hbody;simp at hbody
        simp[execOp,hop,resolve,hcv,Deferred.ofValue,invoke,callFunc,hfn,hn1,hn2]
      rw[hr]
      show Calls P g _ _ _
      refine hcall.mono ?_
      rintro e w' ⟨cv,v,σ',γ',rfl,rfl,ht',hs',hf',hv,hK,henv⟩
      refine hn _ _ _ hK ⟨by rw[put_defers];exact hdf,by rw[put_size];exact hsz,{ γ' with tmps:=(a.put o.dst cv).tmps },rfl,rfl,put_sim hs' (by rw[ht',ha]) hd' hv,?_⟩
      rw[objs_put]
      exact (hf.trans hf').put _
    · exact h.elim
  · exact h.elim
theorem callKR_sel (sel:List Nat) {f:FuncId} {args cargs:List AV} {cobjs:List Ob} {dst:Option Tmp} {K:St→Prop} {Post:AV→List Ob→Prop} (h:HoldsR P f cargs cobjs Post) (hnd:sel.Nodup)
    (ho:SelX (rho σ.objs.length sel) σ.objs sel cobjs) (ha:ArgsR (ArgR σ (·∈sel) (rho σ.objs.length sel) false) cargs args)
    (hK:∀ res cobjs',Post res cobjs'→K (({ σ with objs:=mergeO σ.objs sel (cobjs'.map (renO (rho σ.objs.length sel))) }:St).put dst (ren (rho σ.objs.length sel) res))):callKR P f args dst K σ:=by
  obtain ⟨h1,h2⟩:=ho.spec
  obtain ⟨h3,h4⟩:=ha.spec
  exact⟨sel,false,cargs,cobjs,Post,h,⟨hnd,h1,h2,h3,h4⟩,fun res cobjs' hp=>⟨by simp,hK res cobjs' hp⟩⟩
end Go.Am
namespace Go.Am
variable {P:Program} {N n0:Nat} {σ:St} {Q:Exit→St→Prop}
def opsLQ (P:Program) (ops:Array Oper) (qs:List Nat):Nat→List Oper→(St→Prop)→St→Prop
  | _,[],K,σ=>K σ
  | i,o::r,K,σ=>stepD P ops (qs.contains i) o (opsLQ P ops qs (i+1) r K) σ
theorem opsLQ_nil {ops:Array Oper} {qs:List Nat} {i:Nat} {K:St→Prop}:opsLQ P ops qs i [] K σ=K σ:=by simp only[opsLQ]
theorem opsLQ_cons {ops:Array Oper} {qs:List Nat} {i:Nat} {o:Oper} {r:List Oper} {K:St→Prop}:opsLQ P ops qs i (o::r) K σ=stepD P ops (qs.contains i) o (opsLQ P ops qs (i+1) r K) σ:=by simp only[opsLQ]
theorem planW_seqQ {ops:Array Oper} {qs:List Nat} {K:St→Prop}:∀ (l:List Oper) (i:Nat) (σ:St),ops.toList.drop i=l→opsLQ P ops qs i l K σ→planW P ops qs (seqP (List.range' i l.length)) K σ
  | [],i,σ,_,h=>h
  | o::r,i,σ,hl,h=>by
    have hi:ops[i]?=some o:=by
      have:(ops.toList.drop i)[0]?=some o:=by rw[hl];rfl
      simpa using this
    have hr:ops.toList.drop (i+1)=r:=by
      have:=congrArg List.tail hl
      simpa [List.tail_drop] using this
    rw[List.length_cons,List.range'_succ]
    show stepAt P ops qs i (planW P ops qs (seqP (List.range' (i+1) r.length)) K) σ
    unfold stepAt
    simp only[hi]
    have hm:∀ s,opsLQ P ops qs (i+1) r K s→planW P ops qs (seqP (List.range' (i+1) r.length)) K s:=fun s hs=>planW_seqQ r (i+1) s hr hs
    exact stepD_mono hm h
def inTextQ (ops:Array Oper) (qs:List Nat):Bool:=(seqP (List.range ops.size)).ok ops qs ops.size (Array.replicate ops.size false)
theorem W_draw_q {id:Nat} {ops:Array Oper} {y:Code} (qs:List Nat) (hm:P.follows .mixedOrders=true) (hd:dstOK N ops=true) (ht:inTextQ ops qs=true) (h:∀ K:St→Prop,(∀ s,W P N n0 y Q s→K s)→opsLQ P ops qs 0 ops.toList K σ) :
    W P N n0 (.seq (.region id ops true) y) Q σ :=
  W_draw_k qs _ hm hd ht fun K hK=>by
    have:=planW_seqQ (P:=P) (ops:=ops) (qs:=qs) ops.toList 0 σ rfl (h K hK)
    rw[List.range_eq_range']
    simpa using this
theorem W_draw_qe {id:Nat} {ops:Array Oper} (qs:List Nat) (hm:P.follows .mixedOrders=true) (hd:dstOK N ops=true) (ht:inTextQ ops qs=true) (h:∀ K:St→Prop,(∀ s,Q .normal s→K s)→opsLQ P ops qs 0 ops.toList K σ) :
    W P N n0 (.region id ops true) Q σ :=
  W_draw qs _ hm hd ht (by
    have:=planW_seqQ (P:=P) (ops:=ops) (qs:=qs) ops.toList 0 σ rfl (h _ (fun _ h=>h))
    rw[List.range_eq_range']
    simpa using this)
theorem callQ_pure {f:FuncId} {args:List AV} {dst:Option Tmp} {K:St→Prop} {res:AV} (h:Holds P f args [] res []) (ha:noRefL args=true) (hr:noRef res=true) (hK:K (σ.put dst res)):callQ P f args dst K σ :=
  ⟨res,h,ha,hr,hK⟩
end Go.Am
namespace Go.Am
variable {P:Program} {N n0:Nat} {σ:St} {Q:Exit→St→Prop}
theorem Sim.revar {σ:St} {γ:Cx} (h:Sim σ γ) {id:Nat} {cells cells':List AV} (ho:σ.objs[id]?=some (.var cells)) (hl:cells'.length=cells.length)
    (hc:∀ (c:Nat) v v',cells[c]?=some v→cells'[c]?=some v'→∀ cv,RelV σ.objs γ.w γ.Z γ.blk v cv→RelV σ.objs γ.w γ.Z γ.blk v' cv):Sim ⟨σ.env,σ.objs.set id (.var cells')⟩ γ:=by
  obtain ⟨b,cap,cur,t,h1,h2,h3,h4⟩:=h.obs id _ ho
  have:=h.write (ob':=.var cells') ho (by simp) (by simp[Ob.like,hl]) h1 (w':=γ.w) h2 (fun _ _=>rfl) rfl ⟨rfl,by rw[h3,hl],fun c v hv=>?_⟩
  · exact this
  · have hlt:c<cells.length:=by rw[← hl];exact (List.getElem?_eq_some_iff.1 hv).1
    exact hc c _ v (List.getElem?_eq_getElem hlt) hv _ (h4 c _ (List.getElem?_eq_getElem hlt))
theorem Fr.revar (os:List Ob) (γ:Cx) {id:Nat} {cells cells':List AV} (ho:os[id]?=some (.var cells)) (hl:cells'.length=cells.length):Fr os γ (os.set id (.var cells')) γ where
  eos:=rfl
  tape:=rfl
  output:=rfl
  size:=Nat.le_refl _
  keep:=fun _ _ _=>rfl
  z0:=fun _ h=>h
  z1:=fun _ h=>.inl h
  own:=by
    rintro b ⟨i,o,c,⟨x,hx,hgx⟩,hb⟩
    rw[List.getElem?_set] at hx
    split at hx
    · rename_i e;subst e;exact .inl ⟨id,o,c,⟨_,ho,by simp⟩,hb⟩
    · exact .inl ⟨i,o,c,⟨x,hx,hgx⟩,hb⟩
  len:=by simp
  old:=by
    rintro i hi ⟨x,hx,hgx⟩
    have hx0:=hx
    rw[List.getElem?_set] at hx
    split at hx
    · rename_i e;subst e
      exact⟨rfl,.var cells,.var cells',ho,by rw[List.getElem?_set];simp[hi],by simp[Ob.like,hl]⟩
    · exact⟨rfl,x,x,hx,hx0,Ob.like_refl hgx⟩
theorem Turns.nilC (id c sz:Nat) {cells:List AV} (ho:σ.objs[id]?=some (.var cells)) (hc:cells[c]?=some (.lit (.slice none 0 0))) (h0:0<sz) :
    Turns n0 σ ⟨σ.env,(σ.objs++[Ob.arr sz []]).set id (.var (cells.set c (.ref σ.objs.length sz 0 0)))⟩:=by
  intro os γ0 γ _ hs hf
  have hp:=hs.pushNil h0
  have hid:id<σ.objs.length:=(List.getElem?_eq_some_iff.1 ho).1
  have ho':(σ.objs++[Ob.arr sz []])[id]?=some (.var cells):=by rw[List.getElem?_append_left hid];exact ho
  refine⟨{ γ with blk:=updB γ.blk σ.objs.length none },rfl,rfl,?_,(hf.trans (Fr.pushNil _ _ _)).trans (Fr.revar _ _ ho' (cells':=cells.set c (.ref σ.objs.length sz 0 0)) (by simp))⟩
  refine hp.revar ho' (cells':=cells.set c (.ref σ.objs.length sz 0 0)) (by simp) (fun k v v' hv hv' cv hr=>?_)
  rw[List.getElem?_set] at hv'
  split at hv'
  · rename_i e;subst e
    split at hv'
    · simp only[Option.some.injEq] at hv'
      subst hv'
      have hk:cells[c]?=some v:=hv
      rw[hc] at hk
      simp only[Option.some.injEq] at hk
      subst hk
      rw[hr.lit_inv]
      exact .refNil _ _ (List.getElem?_concat_length ..) (by simp[updB])
    · simp at hv'
  · have hk:cells[k]?=some v':=hv'
    have hk2:cells[k]?=some v:=hv
    rw[hk2] at hk
    simp only[Option.some.injEq] at hk
    subst hk
    exact hr
theorem Turns.frzV (a id c sz:Nat) {cells:List AV} {rows:List (List AV)} (ho:σ.objs[id]?=some (.var cells)) (ha:σ.objs[a]?=some (.arr sz rows)) (hc:cells[c]?=some (.ref a sz 0 rows.length))
    (hw:∀ row∈rows,row.length=sz) (hfz:∀ row∈rows,∀ v∈row,(∃ x,v=.lit x)∨∃ s r,v=.tree s r):Turns n0 σ ⟨σ.env,(σ.objs.set a .gone).set id (.var (cells.set c (.tree sz rows)))⟩:=by
  intro os γ0 γ _ hs hf
  have hai:a≠id:=by intro e;subst e;rw[ho] at ha;simp at ha
  have hidl:id<σ.objs.length:=(List.getElem?_eq_some_iff.1 ho).1
  have hal:a<σ.objs.length:=(List.getElem?_eq_some_iff.1 ha).1
  let γ':Cx:={ γ with Z:=fun b=>γ.Z b∨∃ o cap,γ.blk a=some (b,o,cap) }
  let os2:=(σ.objs.set a .gone).set id (.var (cells.set c (.tree sz rows)))
  have hget:∀ i,os2[i]?=if i=id then some (.var (cells.set c (.tree sz rows))) else if i=a then some .gone else σ.objs[i]?:=by
    intro i
    show ((σ.objs.set a .gone).set id _)[i]?=_
    rw[List.getElem?_set,List.getElem?_set]
    by_cases h1:i=id
    · subst h1;simp[hidl]
    · by_cases h2:i=a
      · subst h2;simp[Ne.symm h1,h1,hal]
      · simp[Ne.symm h1,Ne.symm h2,h1,h2]
  have hR:∀ v cv,RelV σ.objs γ.w γ.Z γ.blk v cv→RelV os2 γ'.w γ'.Z γ'.blk v cv:=fun v cv hv =>
    hv.mono (fun b hb=>⟨.inl hb,rfl⟩) (fun i o hi=>by
      rw[hget]
      by_cases h1:i=id
      · subst h1
        rw[ho] at hi
        simp only[Option.some.injEq] at hi
        subst hi
        right
        exact⟨rfl,_,by rw[if_pos rfl],by simp[Ob.like]⟩
      · rw[if_neg h1]
        by_cases h2:i=a
        · left;rw[if_pos h2]
        · rw[if_neg h2]
          by_cases hg:o=.gone
          · subst hg;exact .inl hi
          · exact .inr ⟨rfl,o,hi,Ob.like_refl hg⟩)
  have hlive:∀ i,Live os2 i→Live σ.objs i∧i≠a:=by
    rintro i ⟨o,hi,hg⟩
    rw[hget] at hi
    split at hi
    · rename_i h1;subst h1;exact⟨⟨_,ho,by simp⟩,Ne.symm hai⟩
    · split at hi
      · simp at hi;exact absurd hi.symm hg
      · rename_i h2;exact⟨⟨o,hi,hg⟩,h2⟩
  have hav:Live σ.objs a:=⟨_,ha,by simp⟩
  refine⟨γ',rfl,rfl,⟨fun k=>hR _ _ (hs.slots k),?_,fun i j b o c o' c' hi hj=>hs.inj i j b o c o' c' (hlive i hi).1 (hlive j hj).1,?_,?_⟩,?_⟩
  · intro i o hi
    have hi':os2[i]?=some o:=hi
    rw[hget] at hi'
    split at hi'
    · rename_i h1
      subst h1
      simp only[Option.some.injEq] at hi'
      subst hi'
      obtain ⟨b,cap,cur,t,h1,h2,h3,h4⟩:=hs.obs _ _ ho
      refine⟨b,cap,cur,t,h1,h2,by simpa using h3,fun k v hv=>?_⟩
      rw[List.getElem?_set] at hv
      split at hv
      · rename_i e
        subst e
        split at hv
        · simp only[Option.some.injEq] at hv
          subst hv
          have hfr:Frz σ (fun x=>x≠a) (.tree sz rows) (.ref a sz 0 rows.length):=Frz.flat ha hw rfl (by simp) hfz
          exact .frz _ _ (hfr.treeR hs (γc:=γ') (fun b hb=>.inl hb) rfl (fun x b o cap hid _ hb=>.inr ⟨o,cap,by rw[show a=x by simpa using (Decidable.not_not.1 hid).symm];exact hb⟩) _ (h4 c _ hc))
        · simp at hv
      · exact hR _ _ (h4 k v hv)
    · split at hi'
      · simp only[Option.some.injEq] at hi';subst hi';trivial
      · by_cases hg:o=.gone
        · subst hg;trivial
        · exact (hs.obs i o hi').mono hR rfl (fun _ _ _ _=>rfl)
  · rintro b ⟨i,o,c',hi,hb⟩ (hz | ⟨o',cap,hb'⟩)
    · exact hs.nz b ⟨i,o,c',(hlive i hi).1,hb⟩ hz
    · exact (hlive i hi).2 (hs.inj i a b o c' o' cap (hlive i hi).1 hav hb hb')
  · rintro b (hz | ⟨o,cap,hb⟩)
    · exact hs.zlt b hz
    · exact hs.blt hav hb
  · refine⟨hf.eos,hf.tape,hf.output,hf.size,hf.keep,fun b hb=>.inl (hf.z0 b hb),?_,?_,by show os.length≤os2.length;simp[os2];exact hf.len,?_⟩
    · rintro b (hz | ⟨o,cap,hb⟩)
      · exact hf.z1 b hz
      · exact .inr (hf.own b ⟨a,o,cap,hav,hb⟩)
    · rintro b ⟨i,o,c',hi,hb⟩
      exact hf.own b ⟨i,o,c',(hlive i hi).1,hb⟩
    · intro i hi hl
      obtain ⟨h1,x,x',hx,hx',hk⟩:=hf.old i hi (hlive i hl).1
      have hia:=(hlive i hl).2
      have hl':Live os2 i:=hl
      obtain ⟨o,ho2,hg2⟩:=hl'
      refine⟨h1,x,o,hx,ho2,?_⟩
      rw[hget] at ho2
      split at ho2
      · rename_i e
        subst e
        rw[ho] at hx'
        simp only[Option.some.injEq] at hx' ho2
        subst hx';subst ho2
        refine Ob.like_trans hk (by simp[Ob.like])
      · rw[hx'] at ho2
        simp only[Option.some.injEq] at ho2
        subst ho2;exact hk
end Go.Am

