import Derived.Test.YtafhoboejkcmiaaGreatX05
set_option linter.unusedVariables false
set_option linter.unusedSimpArgs false
set_option linter.unnecessarySimpa false
set_option linter.unusedSectionVars false
set_option maxHeartbeats 64000000
set_option maxRecDepth 20000
namespace Go.Am
variable {P:Program}
variable {N n0:Nat} {Q:Exit→St→Prop} {σ:St}
def retR (P:Program) (n0:Nat) (rs:List ResultVar) (Post:AV→List Ob→Prop):Exit→St→Prop
  | .normal,s=>resW s P rs fun vs=>∃ res objs',Post res objs'∧RetOK n0 s (retV vs) res objs'
  | .ret,s=>resW s P rs fun vs=>∃ res objs',Post res objs'∧RetOK n0 s (retV vs) res objs'
  | _,_=>False
theorem HoldsR.of_body {f : FuncId} {fn : Func} {c : Code} {args : List AV} {objs : List Ob} {Post : AV → List Ob → Prop} (hf : P.funcs[f]? = some fn) (hb : fn.body = some c) (hname : (fn.name == "runtime.NumGoroutine") = false)
    (hN:args.length≤fn.ntmps) (h:W P fn.ntmps objs.length c (retR P objs.length fn.results.toList Post) ⟨fun k=>args.getD k .undef,objs⟩):HoldsR P f args objs Post:=by
  refine⟨⟨fn,hf,hname,by rw[hb];rfl⟩,?_⟩
  intro γ hsz hs
  refine calls_of_wp hf hb ?_
  let tm:=γ.tmps++Array.replicate (fn.ntmps - γ.tmps.size) Go.undef
  have hok:Okay fn.ntmps objs γ ⟨fun k=>args.getD k .undef,objs⟩ { tmps:=tm,defers:=[] } γ.w:=by
    refine⟨rfl,by simp[tm];omega,{ γ with tmps:=tm },rfl,rfl,⟨fun k=>?_,hs.obs,hs.inj,hs.nz,hs.zlt⟩,(Fr.refl _ _).put _⟩
    rcases Nat.lt_or_ge k args.length with hk | hk
    · have:=hs.slots k
      have e:tm.getD k Go.undef=γ.tmps.getD k Go.undef:=by
        simp only[tm,Array.getD_eq_getD_getElem?]
        rw[Array.getElem?_append_left (by omega)]
      show RelV _ _ _ _ _ (tm.getD k Go.undef)
      rw[e];exact this
    · have e:args.getD k AV.undef=.undef:=by simp[hk]
      show RelV _ _ _ _ (args.getD k .undef) _
      rw[e];exact .undef _
  refine wp_mono (h objs γ _ γ.w rfl hok) ?_
  rintro e a' w' ⟨σ',h1,hdf,_,γ',rfl,ha,hs',hf'⟩
  have fin:∀ (K:List AV→Prop),resW σ' P fn.results.toList K→(∀ vs,K vs→∃ res objs',Post res objs'∧RetOK objs.length σ' (retV vs) res objs') →
      a'.defers=[]∧∃ v,(results fn a'.tmps).run P γ'.w=.ok v γ'.w∧∃ res objs' cv γ'',Post res objs'∧Ending.returned v=.returned cv∧γ''.w=γ'.w∧γ''.tmps = #[cv]∧Sim ⟨fun k=>[res].getD k .undef,objs'⟩ γ''∧Fr objs γ objs' γ'':=by
    intro K hK hKR
    obtain ⟨vs,cvs,k1,k2,k3,k4,k5⟩:=resW_sound hs' _ _ hK
    obtain ⟨res,objs',hpost,sel,snap,r1,r2,r3,r4,r5,r6,r7⟩:=hKR vs k1
    refine⟨hdf,?_⟩
    have hrun :∃v,(results fn a'.tmps).run P γ'.w=.ok v γ'.w∧RelV σ'.objs γ'.w γ'.Z γ'.blk (retV vs) v:=by
      have hm:(fn.results.mapM fun (r:ResultVar)=>match r with | .tmp t=>(pure (a'.tmps.getD t Go.undef):Sem Value) | .cell a t=>do loadVar t (← asAddr (a'.tmps.getD a Go.undef))).run P γ'.w=.ok cvs.toArray γ'.w:=by
        rw[Array.mapM_eq_mapM_toList,Sem.run_map,← ha]
        exact congrArg (fun (r:Result (List Value))=>r.andThen fun a w'=>Result.ok a.toArray w') k2
      have hr:(results fn a'.tmps).run P γ'.w=.ok (if h:cvs.toArray.size=1 then cvs.toArray[0] else .tuple cvs.toArray) γ'.w:=by
        unfold results
        rw[Sem.run_bind]
        exact congrArg (fun r=>Result.andThen r fun (a:Array Value) w'=>(pure (if h:a.size=1 then a[0] else Value.tuple a):Sem Value).run P w') hm
      rw[hr]
      match vs,cvs,k3,k5 with
      | [],[],_,k5=>exact⟨_,rfl,.tup _ _ rfl (fun j x hj=>by simp at hj)⟩
      | [v],[cv],_,k5=>exact⟨cv,by simp,by simpa [retV] using k5 0 v rfl⟩
      | v::v'::vs,cv::cv'::cvs,k3,k5 =>
        refine⟨.tuple (cv::cv'::cvs).toArray,by simp,.tup _ _ (by simpa using k3) (fun j x hj=>?_)⟩
        have:=k5 j x hj
        simpa [List.getD_eq_getElem?_getD,Array.getD_eq_getD_getElem?] using this
    obtain ⟨v,hv1,hv2⟩:=hrun
    obtain ⟨γ'',e1,e2,e3,e4⟩:=hs'.select sel snap objs' r1 r2 r3 r4 (fun k=>[res].getD k .undef) #[v] (fun k=>by
      cases k with
      | zero=>exact .inr ⟨_,r7,by simpa using hv2⟩
      | succ k=>left;simp)
    exact⟨v,hv1,res,objs',v,γ'',hpost,rfl,e1,e2,e3,hf'.select r5 r2 r6 e1 e4⟩
  cases e with
  | normal=>exact fin _ h1 (fun _ h=>h)
  | ret=>exact fin _ h1 (fun _ h=>h)
  | exit id=>exact h1.elim
  | goto l=>exact h1.elim
  | panic c=>exact h1.elim
  | outgrown=>exact h1.elim
theorem HoldsR.of_body' {f : FuncId} {fn : Func} {c : Code} {args : List AV} {objs : List Ob} {Post : AV → List Ob → Prop} (N k : Nat) (rs : List ResultVar) (hf : P.funcs[f]? = some fn) (hb : fn.body = some c) (hname : (fn.name == "runtime.NumGoroutine") = false)
    (hN:fn.ntmps=N) (hrs:fn.results.toList=rs) (hk:objs.length=k) (hl:args.length≤N) (h:W P N k c (retR P k rs Post) ⟨fun k=>args.getD k .undef,objs⟩):HoldsR P f args objs Post:=by
  subst hN;subst hrs;subst hk
  exact HoldsR.of_body hf hb hname hl h
def callKR (P:Program) (g:FuncId) (args:List AV) (dst:Option Tmp) (K:St→Prop) (σ:St):Prop:=callWR P g args σ fun v σ'=>K (σ'.put dst v)
def callO (P:Program) (o:Oper) (K:St→Prop) (σ:St):Prop :=
  o.guard=none ∧
  match o.op with
  | .call { callee:=.value f,args,.. } =>
    match ev σ f with
    | .fn g caps=>callKR P g (args.toList.map (ev σ)++caps) o.dst K σ
    | _=>False
  | _=>False
theorem callO_sound {os:List Ob} {γ0:Cx} {o:Oper} {K:St→Prop} (h:callO P o K σ) {a:Act} {w:World} (hok:Okay N os γ0 σ a w) (hd:∀ d,o.dst=some d→d<N)
    {Q:Exit→Act→World→Prop} {next:Act→World→Prop} (hn:∀ σ' a' w',K σ'→Okay N os γ0 σ' a' w'→next a' w'):o.wp P a w next Q:=by
  obtain ⟨hdf,hsz,γ,rfl,ha,hs,hf⟩:=hok
  have hd':∀ d,o.dst=some d→d<a.tmps.size:=fun d h=>by rw[hsz];exact hd d h
  obtain ⟨_,h⟩:=h
  split at h
  · rename_i f args ats hop
    split at h
    · rename_i g caps he
      have hfr:=ev_rel hs ha f
      rw[he] at hfr
      obtain ⟨cvs,hcv,hcs,hcr⟩:=hfr.fn_inv
      have hargs:∀ (j:Nat) d,(args.toList.map (ev σ)++caps)[j]?=some d→RelV σ.objs γ.w γ.Z γ.blk d (((args.map a.eval)++cvs).getD j Go.undef):=by
        intro j d hj
        simp only[Array.getD_eq_getD_getElem?]
        rcases Nat.lt_or_ge j args.size with hlt | hge
        · rw[List.getElem?_append_left (by simpa using hlt)] at hj
          rw[Array.getElem?_append_left (by simpa using hlt)]
          simp only[List.getElem?_map,Array.getElem?_toList,Array.getElem?_map] at hj ⊢
          cases hx:args[j]? with
          | none=>simp[hx] at hj
          | some y=>simp[hx] at hj ⊢;subst hj;exact ev_rel hs ha y
        · rw[List.getElem?_append_right (by simpa using hge)] at hj
          rw[Array.getElem?_append_right (by simpa using hge)]
          simp only[List.length_map,Array.length_toList,Array.size_map] at hj ⊢
          have:=hcr _ d hj
          simpa [Array.getD_eq_getD_getElem?] using this
      unfold callKR at h
      have hcall:=call_soundR hs (argv:=(args.map a.eval)++cvs) (by simp[hcs]) hargs h
      obtain ⟨sel,snap,cargs,cobjs,Post,⟨⟨fn,hfn,hname,hbody⟩,_⟩,_⟩:=h
      unfold Oper.wp
      have hr:(execOp a.eval o).run P γ.w=.ok (.enter g ((args.map a.eval)++cvs)) γ.w:=by
        have hn1 : ¬ fn.name = "runtime.NumGoroutine" := by simpa using hname
        have hn2:¬ fn.body=none:=by intro e;rw[e] at hbody;simp at hbody
        simp[execOp,hop,resolve,hcv,Deferred.ofValue,invoke,callFunc,hfn,hn1,hn2]
      rw[hr]
      show Calls P g _ _ _
      refine hcall.mono ?_
      rintro e w' ⟨cv,v,σ',γ',rfl,rfl,ht',hs',hf',hv,hK,henv⟩
      refine hn _ _ _ hK ⟨by rw[put_defers];exact hdf,by rw[put_size];exact hsz,{ γ' with tmps:=(a.put o.dst cv).tmps },rfl,rfl,put_sim hs' (by rw[ht',ha]) hd' hv,?_⟩
      rw[objs_put]
      exact (hf.trans hf').put _
    · exact h.elim
  · exact h.elim
theorem callKR_sel (sel:List Nat) {f:FuncId} {args cargs:List AV} {cobjs:List Ob} {dst:Option Tmp} {K:St→Prop} {Post:AV→List Ob→Prop} (h:HoldsR P f cargs cobjs Post) (hnd:sel.Nodup)
    (ho:SelX (rho σ.objs.length sel) σ.objs sel cobjs) (ha:ArgsR (ArgR σ (·∈sel) (rho σ.objs.length sel) false) cargs args)
    (hK:∀ res cobjs',Post res cobjs'→K (({ σ with objs:=mergeO σ.objs sel (cobjs'.map (renO (rho σ.objs.length sel))) }:St).put dst (ren (rho σ.objs.length sel) res))):callKR P f args dst K σ:=by
  obtain ⟨h1,h2⟩:=ho.spec
  obtain ⟨h3,h4⟩:=ha.spec
  exact⟨sel,false,cargs,cobjs,Post,h,⟨hnd,h1,h2,h3,h4⟩,fun res cobjs' hp=>⟨by simp,hK res cobjs' hp⟩⟩
end Go.Am

