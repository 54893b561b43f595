import Derived.Test.YtmhloinjpcabcaaGreatX04
set_option linter.unusedVariables false
set_option linter.unusedSimpArgs false
set_option linter.unnecessarySimpa false
set_option linter.unusedSectionVars false
set_option maxHeartbeats 64000000
set_option maxRecDepth 20000
namespace Go.Am
variable {P:Program}
theorem Sim.select {σ:St} {γ:Cx} (h:Sim σ γ) (sel:List Nat) (snap:Bool) (cobjs:List Ob) (hnd:sel.Nodup) (hcl:cobjs.length=sel.length)
    (hco:∀ (j:Nat) o,cobjs[j]?=some o→o=.gone∨σ.objs[sel.getD j 0]?=some (renO (rho σ.objs.length sel) o)) (hsl:∀ i∈sel,i<σ.objs.length)
    (e:Nat→AV) (tm:Array Value)
    (he:∀ k,e k=.undef∨∃ d,ArgR σ (fun id=>∃ j,j<sel.length∧sel.getD j 0=id∧cobjs[j]?≠some .gone) (rho σ.objs.length sel) snap (e k) d∧RelV σ.objs γ.w γ.Z γ.blk d (tm.getD k Go.undef)) :
    ∃ γ',γ'.w=γ.w∧γ'.tmps=tm∧Sim ⟨e,cobjs⟩ γ'∧((∀ i,i<cobjs.length→γ'.blk i=γ.blk (sel.getD i 0))∧(∀ b,γ.Z b→γ'.Z b)∧(∀ b,γ'.Z b→γ.Z b∨Owned σ.objs γ.blk b) ∧
      ∀ i,Live cobjs i→Live σ.objs (sel.getD i 0)∧∃ o,cobjs[i]?=some o∧σ.objs[sel.getD i 0]?=some (renO (rho σ.objs.length sel) o)):=by
  let ρ:=rho σ.objs.length sel
  let kp:Nat→Prop:=fun id=>∃ j,j<sel.length∧sel.getD j 0=id∧cobjs[j]?≠some .gone
  let S:Nat→Prop:=fun b=>snap=true∧∃ id o cap,¬ kp id∧Live σ.objs id∧γ.blk id=some (b,o,cap)
  let γc:Cx:={ w:=γ.w,tmps:=tm,Z:=fun b=>γ.Z b∨S b,blk:=fun j=>if j<sel.length then γ.blk (sel.getD j 0) else none }
  have hdown:∀ j x,σ.objs[ρ j]?=some x→∃ o,cobjs[j]?=some o∧(o=.gone∨(x=renO ρ o∧γc.blk j=γ.blk (ρ j))):=by
    intro j x hx
    obtain ⟨hj,hr⟩:=rho_lt hsl (List.getElem?_eq_some_iff.1 hx).1
    have hjc:j<cobjs.length:=by omega
    refine⟨cobjs[j],by simp[hjc],?_⟩
    rcases hco j cobjs[j] (by simp[hjc]) with hg | this
    · exact .inl hg
    · right
      refine⟨?_,?_⟩
      · have hx':σ.objs[rho σ.objs.length sel j]?=some x:=hx
        rw[hr,this] at hx'
        simpa using hx'.symm
      · show (if j<sel.length then γ.blk (sel.getD j 0) else none)=γ.blk (rho σ.objs.length sel j)
        rw[if_pos hj,hr]
  have hzc:∀ b,γ.Z b→γc.Z b:=fun b hb=>.inl hb
  have hclive:∀ j,Live cobjs j→Live σ.objs (sel.getD j 0)∧j<sel.length∧kp (sel.getD j 0)∧∃ o,cobjs[j]?=some o∧σ.objs[sel.getD j 0]?=some (renO ρ o):=by
    rintro j ⟨o,ho,hg⟩
    have hj:=(List.getElem?_eq_some_iff.1 ho).1
    rcases hco j o ho with h' | h'
    · exact absurd h' hg
    · exact⟨⟨_,h',fun e=>hg (renO_gone.1 e)⟩,by omega,⟨j,by omega,rfl,by rw[ho];simpa using hg⟩,o,ho,h'⟩
  have hbe:∀ j,j<sel.length→γc.blk j=γ.blk (sel.getD j 0):=fun j hj=>by show (if j<sel.length then _ else _)=_;rw[if_pos hj]
  have hsimc:Sim ⟨e,cobjs⟩ γc:=by
    refine⟨fun k=>?_,?_,?_,?_,?_⟩
    · rcases he k with h0 | ⟨d,hd,hr⟩
      · show RelV cobjs γc.w γc.Z γc.blk (e k) _
        rw[h0];exact .undef _
      · exact hd.rel h hzc rfl (fun hs id b o cap hid hl hb=>.inr ⟨hs,id,o,cap,hid,hl,hb⟩) hdown _ hr
    · intro j o ho
      by_cases hgo:o=.gone
      · subst hgo;trivial
      obtain ⟨_,hjs,_,o',ho',hob'⟩:=hclive j ⟨o,ho,hgo⟩
      have:o=o':=by
        have h1:cobjs[j]?=some o:=ho
        rw[ho'] at h1;simpa using h1.symm
      subst this
      have hob:=h.obs _ _ hob'
      have hb:=hbe j hjs
      cases o with
      | gone=>trivial
      | var cells =>
        obtain ⟨b,cap,cur,t,h1,h2,h3,h4⟩:=hob
        exact⟨b,cap,cur,t,hb.trans h1,h2,by simpa using h3,fun c v hv=>(h4 c (ren ρ v) (by simp only[List.getElem?_map,hv];rfl)).down hzc hdown v rfl⟩
      | mp ag L =>
        obtain ⟨b,f,h1,h2,h3,h4⟩:=hob
        refine⟨b,f,hb.trans h1,?_,fun p hp=>h3 (p.1,ren ρ p.2) (List.mem_map_of_mem (f:=fun p:List Int × AV=>(p.1,ren ρ p.2)) hp),fun j p hp=>(h4 j (p.1,ren ρ p.2) (by simp only[List.getElem?_map,hp];rfl)).down hzc hdown p.2 rfl⟩
        rw[mpE_map,List.length_map] at h2;exact h2
      | arr sz rows =>
        obtain ⟨h0,hr,hob⟩:=hob
        refine⟨h0,fun row hrow=>by simpa using hr (row.map (ren ρ)) (List.mem_map_of_mem hrow),?_⟩
        rcases hob with ⟨h1,h2⟩ | ⟨b,o,cap,cur,t,h1,h2,h3,h4,h5,h6⟩
        · exact .inl ⟨hb.trans h1,by simpa using h2⟩
        · refine .inr ⟨b,o,cap,cur,t,hb.trans h1,h2,h3,by simpa using h4,h5,fun r c v hv=>(h6 r c (ren ρ v) ?_).down hzc hdown v rfl⟩
          simp only[cellAt,List.getElem?_map] at hv ⊢
          cases hrr:rows[r]? with
          | none=>simp[hrr] at hv
          | some row=>simp[hrr] at hv ⊢;exact⟨v,hv,rfl⟩
    · intro i j b o c o' c' hi hj hbi hbj
      obtain ⟨h1,h2,_⟩:=hclive i hi
      obtain ⟨h3,h4,_⟩:=hclive j hj
      exact nodup_getD hnd h2 h4 (h.inj _ _ b o c o' c' h1 h3 (hbe i h2 ▸ hbi) (hbe j h4 ▸ hbj))
    · rintro b ⟨i,o,c,hi,hb⟩ hz
      obtain ⟨h1,h2,h3,_⟩:=hclive i hi
      rw[hbe i h2] at hb
      rcases hz with hz | ⟨_,id,o',cap',hid,hl,hb'⟩
      · exact h.nz b ⟨_,o,c,h1,hb⟩ hz
      · have:=h.inj _ _ b o c o' cap' h1 hl hb hb'
        exact hid (this ▸ h3)
    · rintro b (hb | ⟨_,id,o,cap,_,hl,hb⟩)
      · exact h.zlt b hb
      · exact h.blt hl hb
  refine⟨γc,rfl,rfl,hsimc,fun i hi=>hbe i (by omega),hzc,?_,?_⟩
  · rintro b (hb | ⟨_,id,o,cap,_,hl,hb⟩)
    · exact .inl hb
    · exact .inr ⟨id,o,cap,hl,hb⟩
  · intro i hi
    obtain ⟨h1,h2,_,h4⟩:=hclive i hi
    exact⟨h1,h4⟩
theorem Ob.like_renO {ρ:Nat→Nat} {x o:Ob} (h:x.like (renO ρ o)):x.like o:=by
  cases x<;>cases o<;>simp[Ob.like,renO] at h ⊢<;>exact h
theorem Fr.select {os:List Ob} {γ0 γ γ':Cx} {σ:St} (hf:Fr os γ0 σ.objs γ) {sel:List Nat} {cobjs:List Ob} (hn:os.length≤sel.length) (hcl:cobjs.length=sel.length)
    (hid:∀ i,i<os.length→sel.getD i 0=i) (hw:γ'.w=γ.w)
    (h:(∀ i,i<cobjs.length→γ'.blk i=γ.blk (sel.getD i 0))∧(∀ b,γ.Z b→γ'.Z b)∧(∀ b,γ'.Z b→γ.Z b∨Owned σ.objs γ.blk b) ∧
      ∀ i,Live cobjs i→Live σ.objs (sel.getD i 0)∧∃ o,cobjs[i]?=some o∧σ.objs[sel.getD i 0]?=some (renO (rho σ.objs.length sel) o)):Fr os γ0 cobjs γ':=by
  obtain ⟨h1,h2,h3,h4⟩:=h
  refine⟨by rw[hw];exact hf.eos,by rw[hw];exact hf.tape,by rw[hw];exact hf.output,by rw[hw];exact hf.size,by rw[hw];exact hf.keep,fun b hb=>h2 b (hf.z0 b hb),?_,?_,by omega,?_⟩
  · intro b hb
    rcases h3 b hb with h | h
    · exact hf.z1 b h
    · rcases hf.own b h with h | h
      · exact .inr (.inl h)
      · exact .inr (.inr h)
  · rintro b ⟨i,o,c,hi,hb⟩
    have hlt:=hi.lt
    rw[h1 i hlt] at hb
    exact hf.own b ⟨_,o,c,(h4 i hi).1,hb⟩
  · intro i hi hl
    obtain ⟨h5,o,ho,ho'⟩:=h4 i hl
    rw[hid i hi] at h5 ho'
    obtain ⟨h6,x,x',hx,hx',hk⟩:=hf.old i hi h5
    refine⟨by rw[h1 i hl.lt,hid i hi];exact h6,x,o,hx,ho,?_⟩
    rw[ho'] at hx'
    simp only[Option.some.injEq] at hx'
    rw[← hx'] at hk
    exact Ob.like_renO hk
def Okay (N:Nat) (os:List Ob) (γ0:Cx) (σ:St) (a:Act) (w:World):Prop :=
  a.defers=[]∧a.tmps.size=N∧∃ γ,γ.w=w∧γ.tmps=a.tmps∧Sim σ γ∧Fr os γ0 σ.objs γ
def W (P:Program) (N n0:Nat) (c:Code) (Q:Exit→St→Prop) (σ:St):Prop :=
  ∀ (os:List Ob) (γ0:Cx) (a:Act) (w:World),os.length=n0→Okay N os γ0 σ a w→c.wp P (fun e a' w'=>∃ σ',Q e σ'∧Okay N os γ0 σ' a' w') a w
def callK (P:Program) (g:FuncId) (args:List AV) (dst:Option Tmp) (K:St→Prop) (σ:St):Prop:=callW P g args σ fun v σ'=>K (σ'.put dst v)
def methT (P:Program) (t:TypeId) (m:String):Option (FuncId × Option TypeId) :=
  match P.info? t with
  | none=>none
  | some i =>
    match i.methods.find? (·.name == m) with
    | none=>none
    | some r =>
      match r.path.isEmpty,r.func,P.underlying t with
      | true,some (g,pr),some (.pointer e)=>some (g,if pr then none else some e)
      | _,_,_=>none
def recvK (P:Program) (σ:St) (v:AV) (K:FuncId→AV→Prop):Option (FuncId × Option TypeId)→Prop
  | some (g,none)=>K g v
  | some (g,some e) =>
    (ty P e).kind≠99 ∧
    match v with
    | .ptr id r c =>
      match rowOf σ id r with
      | some row=>loadA (ty P e) row c fun x=>K g x
      | none=>False
    | _=>False
  | none=>False
def opG (P:Program) (o:Oper) (σ:St) (K:St→Prop):Prop :=
  match o.op with
  | .call { callee:=.value f,args,.. } =>
    match ev σ f with
    | .fn g caps=>callK P g (args.toList.map (ev σ)++caps) o.dst K σ
    | _=>False
  | .call { callee:=.invoke r m,args,.. } =>
    match ev σ r with
    | .ifc t v=>recvK P σ v (fun g x=>callK P g (x::args.toList.map (ev σ)) o.dst K σ) (methT P t m)
    | _=>False
  | _=>opW P o σ K
def guardK (P:Program) (o:Oper) (K:St→Prop) (b want:Bool) (σ:St):Prop:=(b=want→opG P o σ K)∧(b≠want→K (σ.put o.dst (.lit (.tuple #[]))))
def opsL (P:Program) (ops:Array Oper):List Oper→(St→Prop)→St→Prop
  | [],K,σ=>K σ
  | o::r,K,σ =>
    match o.guard with
    | none=>opG P o σ (opsL P ops r K)
    | some (j,want) =>
      match (ops[j]?).bind (·.dst) with
      | none=>False
      | some d =>
        match σ.env d with
        | .lit (.bool b)=>guardK P o (opsL P ops r K) b want σ
        | .lit (.tuple vs)=>vs = #[]∧opsL P ops r K (σ.put o.dst (.lit (.tuple #[])))
        | _=>False
theorem put_size (a:Act) (d:Option Tmp) (v:Value):(a.put d v).tmps.size=a.tmps.size:=by cases d<;>simp[Act.put]
theorem put_defers (a:Act) (d:Option Tmp) (v:Value):(a.put d v).defers=a.defers:=by cases d<;>rfl
theorem wrapNil (xt:TypeId) (a:Addr) (x y:String):Builtin.ssaWrapNilChk_ #[xt] xt #[.pointer (some a),strVal x,strVal y]=pure (.pointer (some a)):=rfl
theorem run_typeInfo' {w:World} {t:TypeId} {i:TypeInfo} (h:P.info? t=some i):(typeInfo t).run P w=.ok i w:=by
  simp[typeInfo,h]
theorem ext1 (x:Value) (A:Array Value):(#[x]++A).extract 1 (#[x]++A).size=A:=by
  apply Array.ext'
  simp only[Array.toList_extract,List.extract,Array.toList_append,Array.size_append]
  simp[List.take_of_length_le]
theorem recv_sound {σ:St} {γ:Cx} (hs:Sim σ γ) {t:TypeId} {m:String} {v:AV} {cv:Value} (hv:RelV σ.objs γ.w γ.Z γ.blk v cv) {K:FuncId→AV→Prop} (h:recvK P σ v K (methT P t m)) :
    ∃ g x cx,(Go.method (P.types.size+Made.depth) t cv m).run P γ.w=.ok (g,cx) γ.w∧RelV σ.objs γ.w γ.Z γ.blk x cx∧K g x:=by
  obtain ⟨fu,hfu⟩ :∃fu,P.types.size+Made.depth=fu+1:=Nat.exists_eq_succ_of_ne_zero (by unfold Made.depth;omega)
  rw[hfu]
  unfold Go.method
  unfold methT at h
  cases hi:P.info? t with
  | none=>simp[hi,recvK] at h
  | some i =>
    simp only[hi] at h
    cases hf:i.methods.find? (·.name == m) with
    | none=>simp[hf,recvK] at h
    | some r =>
      simp only[hf] at h
      split at h
      · rename_i g pr e hp hr hu
        have hpe:r.path = #[]:=Array.isEmpty_iff.1 hp
        cases pr with
        | true =>
          simp only[if_pos,recvK] at h
          refine⟨g,v,cv,?_,hv,h⟩
          simp[run_typeInfo' hi,hf,hpe,follow,hr,receiverAt,run_underlying hu,Place.get]
        | false =>
          simp only[if_neg,Bool.false_eq_true,not_false_eq_true,recvK] at h
          obtain ⟨hk,h⟩:=h
          cases v with
          | ptr id rr c =>
            simp only at h
            cases hrow:rowOf σ id rr with
            | none=>simp[hrow] at h
            | some row =>
              simp only[hrow] at h
              obtain ⟨x,cx,h1,h2,h3⟩:=load_ptr hs hk hv hrow h
              refine⟨g,x,cx,?_,h2,h3⟩
              obtain ⟨b,base,cap,cur,tt,o,rfl,_⟩:=ptr_row hs hv hrow
              simp only[Instr.loadAt,Instr.sureAddr,Sem.run_bind,Sem.run_pure,Result.andThen_ok] at h1
              simp[run_typeInfo' hi,hf,hpe,follow,hr,receiverAt,run_underlying hu,Place.get,wrapNil,asAddr,h1]
          | _=>exact h.elim
      · exact h.elim
theorem opG_sound {N:Nat} {os:List Ob} {γ0:Cx} {o:Oper} {σ:St} {K:St→Prop} (h:opG P o σ K) {a:Act} {w:World} (hok:Okay N os γ0 σ a w) (hd:∀ d,o.dst=some d→d<N)
    {Q:Exit→Act→World→Prop} {next:Act→World→Prop} (hn:∀ σ' a' w',K σ'→Okay N os γ0 σ' a' w'→next a' w'):o.wp P a w next Q:=by
  obtain ⟨hdf,hsz,γ,rfl,ha,hs,hf⟩:=hok
  have hd':∀ d,o.dst=some d→d<a.tmps.size:=fun d h=>by rw[hsz];exact hd d h
  have hgen:opW P o σ K→o.wp P a γ.w next Q:=by
    intro h
    obtain ⟨n,x,w',σ',γ',hr,hn',hK,hs',hf',hw',ht'⟩:=opW_sound h hs ha hd'
    unfold Oper.wp
    rw[hr]
    have hok':Okay N os γ0 σ' (a.put o.dst x) w':=⟨by rw[put_defers];exact hdf,by rw[put_size];exact hsz,γ',hw',ht',hs',hf.trans hf'⟩
    rcases hn' with rfl | ⟨rfl,rfl⟩
    · exact hn _ _ _ hK hok'
    · exact hn _ _ _ hK hok'
  unfold opG at h
  split at h
  · rename_i f args ats hop
    split at h
    · rename_i g caps he
      have hfr:=ev_rel hs ha f
      rw[he] at hfr
      obtain ⟨cvs,hcv,hcs,hcr⟩:=hfr.fn_inv
      have hargs:∀ (j:Nat) d,(args.toList.map (ev σ)++caps)[j]?=some d→RelV σ.objs γ.w γ.Z γ.blk d (((args.map a.eval)++cvs).getD j Go.undef):=by
        intro j d hj
        simp only[Array.getD_eq_getD_getElem?]
        rcases Nat.lt_or_ge j args.size with hlt | hge
        · rw[List.getElem?_append_left (by simpa using hlt)] at hj
          rw[Array.getElem?_append_left (by simpa using hlt)]
          simp only[List.getElem?_map,Array.getElem?_toList,Array.getElem?_map] at hj ⊢
          cases hx:args[j]? with
          | none=>simp[hx] at hj
          | some y=>simp[hx] at hj ⊢;subst hj;exact ev_rel hs ha y
        · rw[List.getElem?_append_right (by simpa using hge)] at hj
          rw[Array.getElem?_append_right (by simpa using hge)]
          simp only[List.length_map,Array.length_toList,Array.size_map] at hj ⊢
          have:=hcr _ d hj
          simpa [Array.getD_eq_getD_getElem?] using this
      unfold callK at h
      have hcall:=call_sound hs (argv:=(args.map a.eval)++cvs) (by simp[hcs]) hargs h
      obtain ⟨sel,snap,cargs,cobjs,res,cobjs',⟨⟨fn,hfn,hname,hbody⟩,_⟩,_⟩:=h
      unfold Oper.wp
      have hr:(execOp a.eval o).run P γ.w=.ok (.enter g ((args.map a.eval)++cvs)) γ.w:=by
        have hn1 : ¬ fn.name = "runtime.NumGoroutine" := by simpa using hname
        have hn2:¬ fn.body=none:=by intro e;rw[e] at hbody;simp at hbody
        simp[execOp,hop,resolve,hcv,Deferred.ofValue,invoke,callFunc,hfn,hn1,hn2]
      rw[hr]
      show Calls P g _ _ _
      refine hcall.mono ?_
      rintro e w' ⟨cv,v,σ',γ',rfl,rfl,ht',hs',hf',hv,hK,henv⟩
      refine hn _ _ _ hK ⟨by rw[put_defers];exact hdf,by rw[put_size];exact hsz,{ γ' with tmps:=(a.put o.dst cv).tmps },rfl,rfl,put_sim hs' (by rw[ht',ha]) hd' hv,?_⟩
      rw[objs_put]
      exact (hf.trans hf').put _
    · exact h.elim
  · rename_i r m args ats hop
    split at h
    · rename_i t v he
      have hfr:=ev_rel hs ha r
      rw[he] at hfr
      obtain ⟨cv0,hcv,hcr⟩:=hfr.ifc_inv
      obtain ⟨g,x,cx,hm,hx,h⟩:=recv_sound hs hcr h
      have hargs:∀ (j:Nat) d,(x::args.toList.map (ev σ))[j]?=some d→RelV σ.objs γ.w γ.Z γ.blk d ((#[cx]++args.map a.eval).getD j Go.undef):=by
        intro j d hj
        simp only[Array.getD_eq_getD_getElem?]
        cases j with
        | zero =>
          simp only[List.getElem?_cons_zero,Option.some.injEq] at hj
          subst hj
          rw[Array.getElem?_append_left (by simp)]
          simpa using hx
        | succ j =>
          simp only[List.getElem?_cons_succ,List.getElem?_map,Array.getElem?_toList] at hj
          rw[Array.getElem?_append_right (by simp)]
          simp only[List.size_toArray,List.length_cons,List.length_nil,Nat.zero_add,Nat.add_sub_cancel,Array.getElem?_map]
          cases hy:args[j]? with
          | none=>simp[hy] at hj
          | some y=>simp[hy] at hj ⊢;subst hj;exact ev_rel hs ha y
      unfold callK at h
      have hcall:=call_sound hs (argv:=#[cx]++args.map a.eval) (by simp;omega) hargs h
      obtain ⟨sel,snap,cargs,cobjs,res,cobjs',⟨⟨fn,hfn,hname,hbody⟩,_⟩,_⟩:=h
      unfold Oper.wp
      have hr:(execOp a.eval o).run P γ.w=.ok (.enter g (#[cx]++args.map a.eval)) γ.w:=by
        have hn1 : ¬ fn.name = "runtime.NumGoroutine" := by simpa using hname
        have hn2:¬ fn.body=none:=by intro e;rw[e] at hbody;simp at hbody
        have e0:(#[Value.iface t cv0]++args.map a.eval)[0]?=some (.iface t cv0):=by rw[Array.getElem?_append_left (by simp)];simp
        have e1:=ext1 (.iface t cv0) (args.map a.eval)
        have e2:(callMethod (.iface t cv0) m (args.map a.eval)).run P γ.w=.ok (.enter g (#[cx]++args.map a.eval)) γ.w:=by
          unfold callMethod
          simp only[Sem.run_bind,run_program,Result.andThen_ok,hm]
          simp[callFunc,hfn,hn1,hn2]
        simp only[execOp,hop,resolve,hcv,pure_bind,invoke,e0,e1]
        exact e2
      rw[hr]
      show Calls P g _ _ _
      refine hcall.mono ?_
      rintro e w' ⟨cv,v,σ',γ',rfl,rfl,ht',hs',hf',hv,hK,henv⟩
      refine hn _ _ _ hK ⟨by rw[put_defers];exact hdf,by rw[put_size];exact hsz,{ γ' with tmps:=(a.put o.dst cv).tmps },rfl,rfl,put_sim hs' (by rw[ht',ha]) hd' hv,?_⟩
      rw[objs_put]
      exact (hf.trans hf').put _
    · exact h.elim
  · exact hgen h
theorem opsL_sound {N:Nat} {os:List Ob} {γ0:Cx} {ops:Array Oper} (hd:∀ o∈ops.toList,∀ d,o.dst=some d→d<N) {K:St→Prop} {Q:Exit→Act→World→Prop}
    (hQ:∀ σ' a' w',K σ'→Okay N os γ0 σ' a' w'→Q .normal a' w'):∀ (l:List Oper) (i:Nat) (σ:St) (a:Act) (w:World),ops.toList.drop i=l→opsL P ops l K σ→Okay N os γ0 σ a w →
      wpOps P ops Q (List.range' i l.length) a w
  | [],i,σ,a,w,_,h,hok=>by simpa [wpOps] using hQ _ _ _ h hok
  | o::r,i,σ,a,w,hl,h,hok=>by
    have hi:ops[i]?=some o:=by
      have:(ops.toList.drop i)[0]?=some o:=by rw[hl];rfl
      simpa using this
    have hr:ops.toList.drop (i+1)=r:=by
      have:=congrArg List.tail hl
      simpa [List.tail_drop] using this
    have hmem:o∈ops.toList:=List.mem_of_getElem? (by simpa using hi)
    rw[List.length_cons,List.range'_succ,wpOps_cons]
    unfold wpOp
    simp only[hi]
    unfold opsL at h
    cases hg:o.guard with
    | none =>
      simp only[hg] at h
      have hw:Region.wanted o (yielded ops a.tmps)=true:=by simp[Region.wanted,hg]
      rw[if_pos hw]
      left
      exact opG_sound h hok (hd o hmem) (fun σ' a' w' hK hok'=>opsL_sound hd hQ r (i+1) σ' a' w' hr hK hok')
    | some jw =>
      obtain ⟨j,want⟩:=jw
      simp only[hg] at h
      cases hdj:(ops[j]?).bind (·.dst) with
      | none=>simp[hdj] at h
      | some d =>
        simp only[hdj] at h
        split at h
        · rename_i b he
          obtain ⟨hdf,hsz,γ,rfl,ha,hs,hf⟩:=hok
          have hslot:=hs.slots d
          rw[he,ha] at hslot
          have hv:=hslot.lit_inv
          have hy:yielded ops a.tmps j=some b:=by
            unfold yielded
            rw[hdj]
            have:a.tmps[d]?=some (.bool b):=by
              rw[Array.getD_eq_getD_getElem?] at hv
              cases hx:a.tmps[d]? with
              | none=>rw[hx] at hv;simp[Go.undef] at hv
              | some y=>rw[hx] at hv;simp at hv;rw[hv]
            simp[this]
          by_cases hbw:b=want
          · have hw:Region.wanted o (yielded ops a.tmps)=true:=by simp[Region.wanted,hg,hy,hbw]
            rw[if_pos hw]
            left
            exact opG_sound (h.1 hbw) ⟨hdf,hsz,γ,rfl,ha,hs,hf⟩ (hd o hmem) (fun σ' a' w' hK hok'=>opsL_sound hd hQ r (i+1) σ' a' w' hr hK hok')
          · have hw:Region.wanted o (yielded ops a.tmps)=false:=by simp[Region.wanted,hg,hy,hbw]
            rw[if_neg (by rw[hw];simp)]
            refine opsL_sound hd hQ r (i+1) _ _ _ hr (h.2 hbw) ⟨by rw[put_defers];exact hdf,by rw[put_size];exact hsz,{ γ with tmps:=(a.put o.dst Go.undef).tmps },rfl,rfl,put_sim hs ha (fun d h=>by rw[hsz];exact hd o hmem d h) (.lit _),?_⟩
            rw[objs_put];exact hf.put _
        · rename_i vs he
          obtain ⟨hdf,hsz,γ,rfl,ha,hs,hf⟩:=hok
          have hslot:=hs.slots d
          rw[he,ha] at hslot
          have hv:=hslot.lit_inv
          have hy:yielded ops a.tmps j=none:=by
            unfold yielded
            rw[hdj]
            rw[Array.getD_eq_getD_getElem?] at hv
            cases hx:a.tmps[d]? with
            | none=>simp[hx]
            | some y=>rw[hx] at hv;simp at hv;subst hv;simp[hx]
          have hw:Region.wanted o (yielded ops a.tmps)=false:=by simp[Region.wanted,hg,hy]
          rw[if_neg (by rw[hw];simp)]
          refine opsL_sound hd hQ r (i+1) _ _ _ hr h.2 ⟨by rw[put_defers];exact hdf,by rw[put_size];exact hsz,{ γ with tmps:=(a.put o.dst Go.undef).tmps },rfl,rfl,put_sim hs ha (fun d h=>by rw[hsz];exact hd o hmem d h) (.lit _),?_⟩
          rw[objs_put];exact hf.put _
        · exact h.elim
end Go.Am
namespace Go.Am
variable {P:Program} {N n0:Nat} {Q:Exit→St→Prop} {σ:St}
theorem W_mono {c:Code} {Q':Exit→St→Prop} (h:W P N n0 c Q σ) (hq:∀ e s,Q e s→Q' e s):W P N n0 c Q' σ :=
  fun os γ0 a w hn hok=>wp_mono (h os γ0 a w hn hok) (fun _ _ _ ⟨σ',h1,h2⟩=>⟨σ',hq _ _ h1,h2⟩)
theorem W_skip (h:Q .normal σ):W P N n0 .skip Q σ:=fun _ _ _ _ _ hok=>wp_skip ⟨σ,h,hok⟩
theorem W_label {l:Nat} (h:Q .normal σ):W P N n0 (.label l) Q σ:=fun _ _ _ _ _ hok=>wp_label ⟨σ,h,hok⟩
theorem W_exit {id:Nat} (h:Q (.exit id) σ):W P N n0 (.exit id) Q σ:=fun _ _ _ _ _ hok=>wp_exit ⟨σ,h,hok⟩
theorem W_ret (h:Q .ret σ):W P N n0 .ret Q σ:=fun _ _ _ _ _ hok=>wp_ret ⟨σ,h,hok⟩
def seqQ (P:Program) (N n0:Nat) (y:Code) (Q:Exit→St→Prop):Exit→St→Prop
  | .normal,s=>W P N n0 y Q s
  | e,s=>Q e s
theorem W_seq {x y:Code} (h:W P N n0 x (seqQ P N n0 y Q) σ):W P N n0 (.seq x y) Q σ:=by
  intro os γ0 a w hn hok
  refine wp_seq (wp_mono (h os γ0 a w hn hok) ?_)
  rintro e a' w' ⟨σ',h1,h2⟩
  cases e with
  | normal=>exact h1 os γ0 a' w' hn h2
  | exit id=>exact⟨σ',h1,h2⟩
  | goto l=>exact⟨σ',h1,h2⟩
  | ret=>exact⟨σ',h1,h2⟩
  | panic c=>exact⟨σ',h1,h2⟩
  | outgrown=>exact⟨σ',h1,h2⟩
theorem W_cond {c:Operand} {x y:Code} {t:Bool} (hc:ev σ c=.lit (.bool t)) (ht:t=true→W P N n0 x Q σ) (hf:t=false→W P N n0 y Q σ):W P N n0 (.cond c x y) Q σ:=by
  intro os γ0 a w hn hok
  have hcv:a.eval c=.bool t:=by
    obtain ⟨_,_,γ,rfl,ha,hs,_⟩:=hok
    have:=ev_rel hs ha c
    rw[hc] at this
    exact this.lit_inv
  exact wp_cond_split hcv (fun h=>ht h os γ0 a w hn hok) (fun h=>hf h os γ0 a w hn hok)
def blockQ (id:Nat) (Q:Exit→St→Prop):Exit→St→Prop
  | .exit id',s=>if id'=id then Q .normal s else Q (.exit id') s
  | e,s=>Q e s
theorem W_block {id:Nat} {c:Code} (h:W P N n0 c (blockQ id Q) σ):W P N n0 (.block id c) Q σ:=by
  intro os γ0 a w hn hok
  refine wp_block (wp_mono (h os γ0 a w hn hok) ?_)
  rintro e a' w' ⟨σ',h1,h2⟩
  cases e with
  | exit id' =>
    simp only[blockQ] at h1
    simp only[Exit.inBlock]
    split
    · rename_i he;rw[if_pos he] at h1;exact⟨σ',h1,h2⟩
    · rename_i he;rw[if_neg he] at h1;exact⟨σ',h1,h2⟩
  | normal=>exact⟨σ',h1,h2⟩
  | goto l=>exact⟨σ',h1,h2⟩
  | ret=>exact⟨σ',h1,h2⟩
  | panic c=>exact⟨σ',h1,h2⟩
  | outgrown=>exact⟨σ',h1,h2⟩
def dstOK (N:Nat) (ops:Array Oper):Bool:=ops.toList.all fun o=>match o.dst with | some d=>decide (d<N) | none=>true
theorem dstOK_spec {ops:Array Oper} (h:dstOK N ops=true):∀ o∈ops.toList,∀ d,o.dst=some d→d<N:=by
  intro o ho d hd
  unfold dstOK at h
  rw[List.all_eq_true] at h
  have:=h o ho
  simp[hd] at this
  exact this
theorem W_region {id:Nat} {ops:Array Oper} (hd:dstOK N ops=true) (h:opsL P ops ops.toList (Q .normal) σ):W P N n0 (.region id ops false) Q σ:=by
  intro os γ0 a w _ hok
  refine wp_region ?_
  have:=opsL_sound (P:=P) (N:=N) (os:=os) (γ0:=γ0) (ops:=ops) (dstOK_spec hd) (K:=Q .normal) (Q:=fun e a' w'=>∃ σ',Q e σ'∧Okay N os γ0 σ' a' w') (fun σ' a' w' hK hok'=>⟨σ',hK,hok'⟩)
    ops.toList 0 σ a w rfl h hok
  rw[List.range_eq_range']
  simpa using this
theorem Okay.drawn {os:List Ob} {γ0:Cx} {a:Act} {w:World} (h:Okay N os γ0 σ a w):Okay N os γ0 σ a { w with drawn:=w.drawn+1 }:=by
  obtain ⟨h1,h2,γ,rfl,h3,h4,h5⟩:=h
  exact⟨h1,h2,{ γ with w:={ γ.w with drawn:=γ.w.drawn+1 } },rfl,h3,h4.sameHeap rfl,h5.sameHeap rfl rfl rfl rfl⟩
def Turns (n0:Nat) (σ σ':St):Prop:=∀ (os:List Ob) (γ0 γ:Cx),os.length=n0→Sim σ γ→Fr os γ0 σ.objs γ→∃ γ',γ'.w=γ.w∧γ'.tmps=γ.tmps∧Sim σ' γ'∧Fr os γ0 σ'.objs γ'
theorem W_turn {c:Code} {σ':St} (h:Turns n0 σ σ') (hw:W P N n0 c Q σ'):W P N n0 c Q σ:=by
  intro os γ0 a w hn hok
  obtain ⟨h1,h2,γ,rfl,h3,h4,h5⟩:=hok
  obtain ⟨γ',e1,e2,e3,e4⟩:=h os γ0 γ hn h4 h5
  exact hw os γ0 a γ.w hn ⟨h1,h2,γ',e1,e2.trans h3,e3,e4⟩
theorem Turns.forget {e:Nat→AV} (h:∀ k,e k=.undef∨e k=σ.env k):Turns n0 σ ⟨e,σ.objs⟩:=by
  intro os γ0 γ _ hs hf
  refine⟨γ,rfl,rfl,⟨fun k=>?_,hs.obs,hs.inj,hs.nz,hs.zlt⟩,hf⟩
  rcases h k with h | h
  · show RelV _ _ _ _ (e k) _
    rw[h];exact .undef _
  · show RelV _ _ _ _ (e k) _
    rw[h];exact hs.slots k
theorem Turns.select (sel:List Nat) (snap:Bool) (cobjs:List Ob) (e:Nat→AV) (hnd:sel.Nodup) (hcl:cobjs.length=sel.length)
    (hco:∀ (j:Nat) o,cobjs[j]?=some o→o=.gone∨σ.objs[sel.getD j 0]?=some (renO (rho σ.objs.length sel) o)) (hsl:∀ i∈sel,i<σ.objs.length)
    (hn:n0≤sel.length) (hid:∀ i,i<n0→sel.getD i 0=i)
    (he:∀ k,e k=.undef∨ArgR σ (fun id=>∃ j,j<sel.length∧sel.getD j 0=id∧cobjs[j]?≠some .gone) (rho σ.objs.length sel) snap (e k) (σ.env k)):Turns n0 σ ⟨e,cobjs⟩:=by
  intro os γ0 γ hos hs hf
  obtain ⟨γ',h1,h2,h3,h4⟩:=hs.select sel snap cobjs hnd hcl hco hsl e γ.tmps (fun k=>(he k).imp id fun h=>⟨_,h,hs.slots k⟩)
  exact⟨γ',h1,h2,h3,hf.select (by omega) hcl (fun i hi=>hid i (by omega)) h1 h4⟩
theorem Turns.trans {σ1 σ2:St} (h:Turns n0 σ σ1) (k:Turns n0 σ1 σ2):Turns n0 σ σ2:=by
  intro os γ0 γ hos hs hf
  obtain ⟨γ1,a1,a2,a3,a4⟩:=h os γ0 γ hos hs hf
  obtain ⟨γ2,b1,b2,b3,b4⟩:=k os γ0 γ1 hos a3 a4
  exact⟨γ2,b1.trans a1,b2.trans a2,b3,b4⟩
theorem Turns.nil (d sz:Nat) (h:σ.env d=.lit (.slice none 0 0)) (h0:0<sz):Turns n0 σ ⟨upd σ.env d (.ref σ.objs.length sz 0 0),σ.objs++[.arr sz []]⟩:=by
  intro os γ0 γ _ hs hf
  have hp:=hs.pushNil h0
  refine⟨{ γ with blk:=updB γ.blk σ.objs.length none },rfl,rfl,⟨fun k=>?_,hp.obs,hp.inj,hp.nz,hp.zlt⟩,hf.trans (Fr.pushNil _ _ _)⟩
  simp only[upd]
  by_cases hk:k=d
  · subst hk
    rw[if_pos rfl]
    have:=hs.slots k
    rw[h] at this
    rw[this.lit_inv]
    exact .refNil _ _ (List.getElem?_concat_length ..) (by simp[updB])
  · rw[if_neg hk]
    exact hp.slots k
def resW (σ:St) (P:Program):List ResultVar→(List AV→Prop)→Prop
  | [],K=>K []
  | .tmp t::r,K=>resW σ P r fun vs=>K (σ.env t::vs)
  | .cell a t::r,K =>
    (ty P t).kind≠99 ∧
    match σ.env a with
    | .ptr id rr c =>
      match rowOf σ id rr with
      | some row=>loadA (ty P t) row c fun v=>resW σ P r fun vs=>K (v::vs)
      | none=>False
    | _=>False
def retV:List AV→AV
  | [v]=>v
  | vs=>.tup vs
theorem resW_sound {γ:Cx} (hs:Sim σ γ):∀ (rs:List ResultVar) (K:List AV→Prop),resW σ P rs K →
    ∃ vs cvs,K vs∧(rs.mapM fun (r:ResultVar)=>match r with | .tmp t=>(pure (γ.tmps.getD t Go.undef):Sem Value) | .cell a t=>do loadVar t (← asAddr (γ.tmps.getD a Go.undef))).run P γ.w=.ok cvs γ.w ∧
      cvs.length=vs.length∧vs.length=rs.length∧∀ (j:Nat) v,vs[j]?=some v→RelV σ.objs γ.w γ.Z γ.blk v (cvs.getD j Go.undef)
  | [],K,h=>⟨[],[],h,by simp,rfl,rfl,by simp⟩
  | .tmp t::r,K,h=>by
    obtain ⟨vs,cvs,h1,h2,h3,h4,h5⟩:=resW_sound hs r _ h
    refine⟨_,γ.tmps.getD t Go.undef::cvs,h1,?_,by simp[h3],by simp[h4],?_⟩
    · simp only[List.mapM_cons,Sem.run_bind,Sem.run_pure,Result.andThen_ok,h2]
    · intro j v hj
      cases j with
      | zero=>simp at hj;subst hj;simpa using hs.slots t
      | succ j=>simpa using h5 j v (by simpa using hj)
  | .cell a t::r,K,h=>by
    obtain ⟨hk,h⟩:=h
    split at h
    · rename_i id rr c he
      have hv:=hs.slots a
      rw[he] at hv
      split at h
      · rename_i row hrow
        obtain ⟨v,cv,l1,l2,l3⟩:=load_ptr hs hk hv hrow h
        obtain ⟨vs,cvs,h1,h2,h3,h4,h5⟩:=resW_sound hs r _ l3
        obtain ⟨b,base,cap,cur,tt,o,hp,_⟩:=ptr_row hs hv hrow
        have hrun:(do loadVar t (← asAddr (γ.tmps.getD a Go.undef)):Sem Value).run P γ.w=.ok cv γ.w:=by
          rw[hp] at l1 ⊢
          simp only[Instr.loadAt,Instr.sureAddr,Sem.run_bind,Sem.run_pure,Result.andThen_ok] at l1
          simp only[asAddr,Sem.run_bind,Sem.run_pure,Result.andThen_ok]
          exact l1
        refine⟨_,cv::cvs,h1,?_,by simp[h3],by simp[h4],?_⟩
        · simp only[List.mapM_cons]
          rw[Sem.run_bind,hrun]
          simp only[Result.andThen_ok,Sem.run_bind,h2,Sem.run_pure]
        · intro j x hj
          cases j with
          | zero=>simp at hj;subst hj;simpa using l2
          | succ j=>simpa using h5 j x (by simpa using hj)
      · exact h.elim
    · exact h.elim
def RetOK (n0:Nat) (σ:St) (v res:AV) (objs':List Ob):Prop :=
  ∃ (sel:List Nat) (snap:Bool),sel.Nodup∧objs'.length=sel.length∧(∀ (j:Nat) o,objs'[j]?=some o→o=.gone∨σ.objs[sel.getD j 0]?=some (renO (rho σ.objs.length sel) o))∧(∀ i∈sel,i<σ.objs.length) ∧
    n0≤sel.length∧(∀ i,i<n0→sel.getD i 0=i)∧ArgR σ (fun id=>∃ j,j<sel.length∧sel.getD j 0=id∧objs'[j]?≠some .gone) (rho σ.objs.length sel) snap res v
def retQ (P:Program) (n0:Nat) (rs:List ResultVar) (res:AV) (objs':List Ob):Exit→St→Prop
  | .normal,s=>resW s P rs fun vs=>RetOK n0 s (retV vs) res objs'
  | .ret,s=>resW s P rs fun vs=>RetOK n0 s (retV vs) res objs'
  | _,_=>False
theorem Holds.of_body {f : FuncId} {fn : Func} {c : Code} {args : List AV} {objs : List Ob} {res : AV} {objs' : List Ob} (hf : P.funcs[f]? = some fn) (hb : fn.body = some c) (hname : (fn.name == "runtime.NumGoroutine") = false)
    (hN:args.length≤fn.ntmps) (h:W P fn.ntmps objs.length c (retQ P objs.length fn.results.toList res objs') ⟨fun k=>args.getD k .undef,objs⟩):Holds P f args objs res objs':=by
  refine⟨⟨fn,hf,hname,by rw[hb];rfl⟩,?_⟩
  intro γ hsz hs
  refine calls_of_wp hf hb ?_
  let tm:=γ.tmps++Array.replicate (fn.ntmps - γ.tmps.size) Go.undef
  have hok:Okay fn.ntmps objs γ ⟨fun k=>args.getD k .undef,objs⟩ { tmps:=tm,defers:=[] } γ.w:=by
    refine⟨rfl,by simp[tm];omega,{ γ with tmps:=tm },rfl,rfl,⟨fun k=>?_,hs.obs,hs.inj,hs.nz,hs.zlt⟩,(Fr.refl _ _).put _⟩
    rcases Nat.lt_or_ge k args.length with hk | hk
    · have:=hs.slots k
      have e:tm.getD k Go.undef=γ.tmps.getD k Go.undef:=by
        simp only[tm,Array.getD_eq_getD_getElem?]
        rw[Array.getElem?_append_left (by omega)]
      show RelV _ _ _ _ _ (tm.getD k Go.undef)
      rw[e];exact this
    · have e:args.getD k AV.undef=.undef:=by simp[hk]
      show RelV _ _ _ _ (args.getD k .undef) _
      rw[e];exact .undef _
  refine wp_mono (h objs γ _ γ.w rfl hok) ?_
  rintro e a' w' ⟨σ',h1,hdf,_,γ',rfl,ha,hs',hf'⟩
  have fin:∀ (K:List AV→Prop),resW σ' P fn.results.toList K→(∀ vs,K vs→RetOK objs.length σ' (retV vs) res objs') →
      a'.defers=[]∧∃ v,(results fn a'.tmps).run P γ'.w=.ok v γ'.w∧∃ cv γ'',Ending.returned v=.returned cv∧γ''.w=γ'.w∧γ''.tmps = #[cv]∧Sim ⟨fun k=>[res].getD k .undef,objs'⟩ γ''∧Fr objs γ objs' γ'':=by
    intro K hK hKR
    obtain ⟨vs,cvs,k1,k2,k3,k4,k5⟩:=resW_sound hs' _ _ hK
    obtain ⟨sel,snap,r1,r2,r3,r4,r5,r6,r7⟩:=hKR vs k1
    refine⟨hdf,?_⟩
    have hrun :∃v,(results fn a'.tmps).run P γ'.w=.ok v γ'.w∧RelV σ'.objs γ'.w γ'.Z γ'.blk (retV vs) v:=by
      have hm:(fn.results.mapM fun (r:ResultVar)=>match r with | .tmp t=>(pure (a'.tmps.getD t Go.undef):Sem Value) | .cell a t=>do loadVar t (← asAddr (a'.tmps.getD a Go.undef))).run P γ'.w=.ok cvs.toArray γ'.w:=by
        rw[Array.mapM_eq_mapM_toList,Sem.run_map,← ha,k2]
        rfl
      have hr:(results fn a'.tmps).run P γ'.w=.ok (if h:cvs.toArray.size=1 then cvs.toArray[0] else .tuple cvs.toArray) γ'.w:=by
        unfold results
        rw[Sem.run_bind]
        exact congrArg (fun r=>Result.andThen r fun (a:Array Value) w'=>(pure (if h:a.size=1 then a[0] else Value.tuple a):Sem Value).run P w') hm
      rw[hr]
      match vs,cvs,k3,k5 with
      | [],[],_,k5=>exact⟨_,rfl,.tup _ _ rfl (fun j x hj=>by simp at hj)⟩
      | [v],[cv],_,k5=>exact⟨cv,by simp,by simpa [retV] using k5 0 v rfl⟩
      | v::v'::vs,cv::cv'::cvs,k3,k5 =>
        refine⟨.tuple (cv::cv'::cvs).toArray,by simp,.tup _ _ (by simpa using k3) (fun j x hj=>?_)⟩
        have:=k5 j x hj
        simpa [List.getD_eq_getElem?_getD,Array.getD_eq_getD_getElem?] using this
    obtain ⟨v,hv1,hv2⟩:=hrun
    obtain ⟨γ'',e1,e2,e3,e4⟩:=hs'.select sel snap objs' r1 r2 r3 r4 (fun k=>[res].getD k .undef) #[v] (fun k=>by
      cases k with
      | zero=>exact .inr ⟨_,r7,by simpa using hv2⟩
      | succ k=>left;simp)
    exact⟨v,hv1,v,γ'',rfl,e1,e2,e3,hf'.select r5 r2 r6 e1 e4⟩
  cases e with
  | normal=>exact fin _ h1 (fun _ h=>h)
  | ret=>exact fin _ h1 (fun _ h=>h)
  | exit id=>exact h1.elim
  | goto l=>exact h1.elim
  | panic c=>exact h1.elim
  | outgrown=>exact h1.elim
theorem Holds.of_body' {f : FuncId} {fn : Func} {c : Code} {args : List AV} {objs : List Ob} {res : AV} {objs' : List Ob} (N k : Nat) (rs : List ResultVar) (hf : P.funcs[f]? = some fn) (hb : fn.body = some c) (hname : (fn.name == "runtime.NumGoroutine") = false)
    (hN:fn.ntmps=N) (hrs:fn.results.toList=rs) (hk:objs.length=k) (hl:args.length≤N) (h:W P N k c (retQ P k rs res objs') ⟨fun k=>args.getD k .undef,objs⟩):Holds P f args objs res objs':=by
  subst hN;subst hrs;subst hk
  exact Holds.of_body hf hb hname hl h
theorem W_k {x y:Code} (h:∀ Q':Exit→St→Prop,(∀ s,W P N n0 y Q s→Q' .normal s)→(∀ e s,e≠.normal→Q e s→Q' e s)→W P N n0 x Q' σ):W P N n0 (.seq x y) Q σ :=
  W_seq (h _ (fun _ h=>h) (fun e s he hq=>by cases e<;>first|exact absurd rfl he|exact hq))
theorem W_region_k {id:Nat} {ops:Array Oper} {y:Code} (hd:dstOK N ops=true) (h:∀ K:St→Prop,(∀ s,W P N n0 y Q s→K s)→opsL P ops ops.toList K σ):W P N n0 (.seq (.region id ops false) y) Q σ :=
  W_seq (W_region hd (h _ (fun _ h=>h)))
theorem opsL_nil {ops:Array Oper} {K:St→Prop}:opsL P ops [] K σ=K σ:=rfl
theorem opsL_cons {ops:Array Oper} {o:Oper} {r:List Oper} {K:St→Prop}:opsL P ops (o::r) K σ =
    match o.guard with
    | none=>opG P o σ (opsL P ops r K)
    | some (j,want) =>
      match (ops[j]?).bind (·.dst) with
      | none=>False
      | some d =>
        match σ.env d with
        | .lit (.bool b)=>guardK P o (opsL P ops r K) b want σ
        | .lit (.tuple vs)=>vs = #[]∧opsL P ops r K (σ.put o.dst (.lit (.tuple #[])))
        | _=>False:=rfl
theorem guardK_tt {o:Oper} {K:St→Prop}:guardK P o K true true σ=opG P o σ K:=by simp[guardK]
theorem guardK_ff {o:Oper} {K:St→Prop}:guardK P o K false false σ=opG P o σ K:=by simp[guardK]
theorem guardK_tf {o:Oper} {K:St→Prop}:guardK P o K true false σ=K (σ.put o.dst (.lit (.tuple #[]))):=by simp[guardK]
theorem guardK_ft {o:Oper} {K:St→Prop}:guardK P o K false true σ=K (σ.put o.dst (.lit (.tuple #[]))):=by simp[guardK]
theorem guardK_split {o:Oper} {K:St→Prop} {b want:Bool} (h1:b=true→guardK P o K true want σ) (h2:b=false→guardK P o K false want σ):guardK P o K b want σ:=by
  cases b
  · exact h2 rfl
  · exact h1 rfl
def clr (ds:List Nat) (e:Nat→AV):Nat→AV:=fun k=>if ds.contains k then .undef else e k
theorem clr_app {ds:List Nat} {e:Nat→AV} {k:Nat}:clr ds e k=if ds.contains k then .undef else e k:=rfl
mutual
def noRef:AV→Bool
  | .ref ..=>false
  | .ptr ..=>false
  | .agg cs=>noRefL cs
  | .tup cs=>noRefL cs
  | .fn _ cs=>noRefL cs
  | .ifc _ v=>noRef v
  | .mref _=>false
  | _=>true
def noRefL:List AV→Bool
  | []=>true
  | v::vs=>noRef v && noRefL vs
end
mutual
theorem ren_noRef (ρ:Nat→Nat):∀ (v:AV),noRef v=true→ren ρ v=v
  | .undef,_=>rfl
  | .lit _,_=>rfl
  | .tree ..,_=>rfl
  | .taddr _,_=>rfl
  | .ref ..,h=>by simp[noRef] at h
  | .ptr ..,h=>by simp[noRef] at h
  | .agg cs,h=>by simp only[noRef] at h;simp only[ren];rw[renL_noRef ρ cs h]
  | .tup cs,h=>by simp only[noRef] at h;simp only[ren];rw[renL_noRef ρ cs h]
  | .fn f cs,h=>by simp only[noRef] at h;simp only[ren];rw[renL_noRef ρ cs h]
  | .ifc t v,h=>by simp only[noRef] at h;simp only[ren];rw[ren_noRef ρ v h]
  | .mref _,h=>by simp[noRef] at h
theorem renL_noRef (ρ:Nat→Nat):∀ (l:List AV),noRefL l=true→renL ρ l=l
  | [],_=>rfl
  | v::vs,h=>by
    simp only[noRefL,Bool.and_eq_true] at h
    simp only[renL]
    rw[ren_noRef ρ v h.1,renL_noRef ρ vs h.2]
end
theorem noRefL_get {l:List AV} (h:noRefL l=true) {j:Nat} {x:AV} (hx:l[j]?=some x):noRef x=true:=by
  induction l generalizing j with
  | nil=>simp at hx
  | cons v l ih =>
    simp only[noRefL,Bool.and_eq_true] at h
    cases j with
    | zero=>simp at hx;subst hx;exact h.1
    | succ j=>exact ih h.2 (by simpa using hx)
theorem callK_pure {f:FuncId} {args:List AV} {dst:Option Tmp} {K:St→Prop} {res:AV} (h:Holds P f args [] res []) (ha:noRefL args=true) (hr:noRef res=true) (hK:K (σ.put dst res)):callK P f args dst K σ:=by
  refine⟨[],false,args,[],res,[],h,⟨List.nodup_nil,rfl,by simp,rfl,?_,by simp⟩,?_⟩
  · intro j c d hc hd
    rw[hc] at hd
    simp at hd
    subst hd
    have:=ArgR.same (σ:=σ) (kp:=(·∈([]:List Nat))) (ρ:=rho σ.objs.length []) (snap:=false) c
    rw[ren_noRef _ c (noRefL_get ha hc)] at this
    exact this
  · rw[ren_noRef _ _ hr]
    simpa [mergeO] using hK
theorem RetOK_pure {v:AV} (hr:noRef v=true):RetOK 0 σ v v []:=by
  refine⟨[],false,List.nodup_nil,rfl,by simp,by simp,Nat.le_refl _,by simp,?_⟩
  have:=ArgR.same (σ:=σ) (kp:=fun id=>∃ j,j<([]:List Nat).length∧([]:List Nat).getD j 0=id∧([]:List Ob)[j]?≠some .gone) (ρ:=rho σ.objs.length []) (snap:=false) v
  rw[ren_noRef _ _ hr] at this
  exact this
end Go.Am
namespace Go.Am
variable {P:Program}
def cls:Op→Nat
  | .move _ | .assign _ | .pick .. | .convert .. | .binOp .. | .unOp .. | .makeFunc .. | .makeInterface .. | .typeAssert .. | .field .. | .extract .. | .build .. | .index ..=>0
  | .call { callee:=.builtin .min,.. } | .call { callee:=.builtin .max,.. }=>0
  | .nilCheck _ | .fieldAddr .. | .indexAddr .. | .slice ..=>1
  | .call { callee:=.builtin .len,.. }=>1
  | .load .. | .lookup ..=>2
  | .alloc _ | .box .. | .makeSlice .. | .buildSlice .. | .makeMap ..=>3
  | .store ..=>4
  | _=>5
def sameK:Ob→Ob→Prop
  | .var _,.var _=>True
  | .arr s _,.arr s' _=>s=s'
  | .mp a L,.mp b M=>a=b∧L=M
  | .gone,.gone=>True
  | _,_=>False
theorem sameK_refl (o:Ob):sameK o o:=by cases o<;>simp[sameK]
def Eff (c:Nat) (a b:List Ob):Prop :=
  if c≤2 then b=a
  else if c=3 then ∀ (id:Nat),id<a.length→b[id]?=a[id]?
  else if c=4 then b.length=a.length∧∀ (id:Nat) o o',a[id]?=some o→b[id]?=some o'→sameK o o'
  else True
theorem eff_id (c:Nat) (h:c≤2) (a:List Ob):Eff c a a:=by simp[Eff,h]
theorem eff_push (a:List Ob) (o:Ob):Eff 3 a (a++[o]):=by
  simp only[Eff];intro id h;exact List.getElem?_append_left h
theorem eff_set (σ:St) (id r:Nat) (row:List AV):Eff 4 σ.objs (setRowOf σ id r row).objs:=by
  simp only[Eff]
  rw[if_neg (by decide),if_neg (by decide),if_pos trivial]
  have key:∀ (x y:Ob),σ.objs[id]?=some x→sameK x y→(σ.objs.set id y).length=σ.objs.length∧∀ (i:Nat) o o',σ.objs[i]?=some o→(σ.objs.set id y)[i]?=some o'→sameK o o':=by
    intro x y hx hxy
    refine⟨by simp,fun i o o' ho ho'=>?_⟩
    rw[List.getElem?_set] at ho'
    split at ho'
    · rename_i e;subst e
      split at ho'
      · simp at ho';subst ho';rw[hx] at ho;simp at ho;subst ho;exact hxy
      · simp at ho'
    · rw[ho] at ho';simp at ho';subst ho';exact sameK_refl o
  unfold setRowOf
  split
  · rename_i cells h;exact key _ _ h trivial
  · rename_i sz rows h;exact key _ _ h rfl
  · exact⟨rfl,fun i o o' ho ho'=>by rw[ho] at ho';simp at ho';subst ho';exact sameK_refl o⟩
def pointsTo:AV→Option Nat
  | .ref id _ _ _=>some id
  | .ptr id _ _=>some id
  | .mref id=>some id
  | _=>none
def ObjC (c:Nat) (a b:Option Ob):Prop :=
  if c=0 then True else if c=1 then ∀ o,a=some o→∃ o',b=some o'∧sameK o o' else ∀ o,a=some o→b=some o
def SmE (c:Nat) (l:List Operand) (σ:St) (e2:Nat→AV) (ob:List Ob):Prop :=
  (∀ x∈l,ev ⟨e2,ob⟩ x=ev σ x)∧(∀ x∈l,∀ id,pointsTo (ev σ x)=some id→ObjC c σ.objs[id]? ob[id]?)
def DetW (P:Program) (o:Oper) (σ:St) (K:St→Prop) (c:Nat) (l:List Operand):Prop :=
  ∃ v os,Eff c σ.objs os∧K ((⟨σ.env,os⟩:St).put o.dst v)∧∀ e2 ob os2 (K2:St→Prop),SmE c l σ e2 ob→(if c≤2 then os2=ob else ob=σ.objs∧os2=os)→K2 ((⟨e2,os2⟩:St).put o.dst v)→opW P o ⟨e2,ob⟩ K2
theorem dA {o:Oper} {σ:St} {K:St→Prop} {c:Nat} {l:List Operand} {v:AV} (hW:K (σ.put o.dst v))
    (h:∀ e2 ob (K2:St→Prop),SmE c l σ e2 ob→K2 ((⟨e2,ob⟩:St).put o.dst v)→opW P o ⟨e2,ob⟩ K2) (hc:c≤2:=by simp[cls]):DetW P o σ K c l :=
  ⟨v,σ.objs,eff_id _ hc _,hW,fun e2 ob os2 K2 hx ho hK2=>h e2 ob K2 hx (by rw[if_pos hc] at ho;subst ho;exact hK2)⟩
theorem dB {o:Oper} {σ:St} {K:St→Prop} {c:Nat} {l:List Operand} {v:AV} {os:List Ob} (hc:3≤c) (he:Eff c σ.objs os) (hW:K ((⟨σ.env,os⟩:St).put o.dst v))
    (h:∀ e2 (_:List Ob) (K2:St→Prop),SmE 0 l σ e2 σ.objs→K2 ((⟨e2,os⟩:St).put o.dst v)→opW P o ⟨e2,σ.objs⟩ K2):DetW P o σ K c l :=
  ⟨v,os,he,hW,fun e2 ob os2 K2 hx ho hK2=>by rw[if_neg (by omega)] at ho;obtain ⟨rfl,rfl⟩:=ho;exact h e2 σ.objs K2 ⟨hx.1,fun _ _ _ _=>by simp[ObjC]⟩ hK2⟩
theorem parts_eq {parts:Array (Nat × Operand)} {σ τ:St} (h:∀ x∈parts.toList.map (·.2),ev τ x=ev σ x) :
    (parts.toList.map fun p=>(p.1,ev τ p.2))=(parts.toList.map fun p=>(p.1,ev σ p.2))∧(parts.toList.all fun p=>(cellsOf (ev τ p.2)).all scal)=(parts.toList.all fun p=>(cellsOf (ev σ p.2)).all scal):=by
  have hp:(parts.toList.map fun p=>(p.1,ev τ p.2))=(parts.toList.map fun p=>(p.1,ev σ p.2)):=List.map_congr_left fun p hp=>by rw[h _ (List.mem_map_of_mem hp)]
  exact⟨hp,by simpa [List.all_map,Function.comp_def] using congrArg (·.all fun q=>(cellsOf q.2).all scal) hp⟩
theorem loadA_det {t:Ty} {cells:List AV} {c:Nat} {K:AV→Prop} (h:loadA t cells c K) :∃v,K v∧∀ K2:AV→Prop,K2 v→loadA t cells c K2:=by
  unfold loadA at h ⊢
  split at h
  · exact⟨_,h.2,fun K2 hK=>by simp_all⟩
  · split at h<;>first|exact h.elim|exact⟨_,h,fun K2 hK=>by simp_all⟩
theorem intW_det {op:BinOp} {k:IntKind} {p q:Int} {K:Value→Prop} (h:intW op k p q K) :∃v,K v∧∀ K2:Value→Prop,K2 v→intW op k p q K2:=by
  unfold intW at h ⊢
  split at h<;>first|exact⟨_,h.2,fun K2 h'=>⟨h.1,h'⟩⟩|exact⟨_,h,fun K2 h=>h⟩|exact h.elim
theorem rowOf_of {σ:St} {e:Nat→AV} {ob:List Ob} {id r:Nat} {row:List AV} (h:∀ o,σ.objs[id]?=some o→ob[id]?=some o) (hr:rowOf σ id r=some row):rowOf ⟨e,ob⟩ id r=some row:=by
  unfold rowOf at hr ⊢
  cases ho:σ.objs[id]?<;>simp_all
theorem mpOf_of {σ:St} {e:Nat→AV} {ob:List Ob} {v:AV} {q:Nat × Nat × List (List Int × AV)} (h:∀ id,v=.mref id→∀ o,σ.objs[id]?=some o→ob[id]?=some o) (hm:mpOf σ v=some q):mpOf ⟨e,ob⟩ v=some q:=by
  unfold mpOf at hm ⊢
  split at hm
  · rename_i id
    split at hm
    · rename_i ag L ho
      have:=h id rfl _ ho
      simp only[this]
      exact hm
    · cases hm
  · cases hm
theorem opW_det {o:Oper} {σ:St} {K:St→Prop} (hW:opW P o σ K):DetW P o σ K (cls o.op) o.op.operands.toList:=by
  obtain ⟨dst,op,type,pos,after,guard⟩:=o
  unfold opW at hW
  cases op
  case call c =>
    obtain ⟨callee,args,argTypes⟩:=c
    cases callee<;>try exact hW.elim
    rename_i b
    cases b<;>try exact hW.elim
    all_goals simp only at hW
    case append =>
      (repeat' split at hW)<;>try exact hW.elim
      rename_i s x t t' hx' ht' _ _ _ _ z pre σ1 sz src hk hz hdst hsrc
      have henv:σ1=⟨σ.env,σ1.objs⟩∧∀ e,dstRows ⟨e,σ.objs⟩ (ty P (ty P t).elem).size (ev σ s)=some (pre,⟨e,σ1.objs⟩):=by
        unfold dstRows at hdst ⊢
        (repeat' split at hdst)<;>simp_all
        all_goals obtain ⟨rfl,rfl⟩:=hdst;simp
      refine dB (os:=σ1.objs++[.arr sz (pre++src)]) (by simp[cls]) trivial (by have:=hW.2;rw[henv.1] at this;exact this) fun e2 ob K2 hx hK2=>?_
      have hs2:srcRows ⟨e2,σ.objs⟩ (ev σ x)=some (sz,src):=hsrc
      unfold opW
      simp[SmE,Op.operands,Call.operands,hx'] at hx
      simp only[hx',ht',hx.1.1,hx.1.2,hk,hz,henv.2,hs2]
      exact⟨hW.1,hK2⟩
    case copy =>
      (repeat' split at hW)<;>try exact hW.elim
      rename_i hx' ht' _ _ id _ _ _ _ src he hsrc _ _ _ ho
      refine dB (by simp[cls]) trivial hW.2 fun e2 ob K2 hx hK2=>?_
      have hs2:srcRows ⟨e2,σ.objs⟩ _=_:=hsrc
      unfold opW
      simp[SmE,Op.operands,Call.operands,hx'] at hx
      simp only[hx',ht',hx.1.1,hx.1.2,he,hs2,ho]
      exact⟨hW.1,hK2⟩
    all_goals (repeat' split at hW)<;>first|exact hW.elim|exact hW.2.elim|refine dA hW ?_|refine dA hW.2 ?_|refine dA hW.2.2 ?_
    all_goals
      intro e2 ob K2 hx hK2
      unfold opW
      simp[SmE,Op.operands,Call.operands,pointsTo,ObjC,cls, *] at hx ⊢
      first|done|(simp_all;done)|(obtain ⟨_,o',_,hk⟩:=hx;cases o'<;>simp_all [sameK];done)
  case load t x =>
    simp only at hW
    obtain ⟨hk,hW⟩:=hW
    (repeat' split at hW)<;>try exact hW.elim
    all_goals
      obtain ⟨v,hK,hl⟩:=loadA_det hW
      refine dA hK fun e2 ob K2 hx hK2=>?_
      unfold opW
      simp[SmE,Op.operands,pointsTo,ObjC,cls, *] at hx
      first|simp only[hx.1,rowOf_of hx.2 ‹rowOf _ _ _=_›]|simp only[hx]
      exact⟨hk,hl _ hK2⟩
  case store t x y =>
    simp only at hW
    obtain ⟨hk,hW⟩:=hW
    (repeat' split at hW)<;>try exact hW.elim
    rename_i id r c he _ row hrow
    have henv:∀ row,setRowOf σ id r row=⟨σ.env,(setRowOf σ id r row).objs⟩∧∀ e,setRowOf ⟨e,σ.objs⟩ id r row=⟨e,(setRowOf σ id r row).objs⟩:=by
      intro row;unfold setRowOf;simp only;split<;>simp_all
    refine dB (by simp[cls]) (eff_set _ _ _ _) (by have:=hW.2;rw[(henv _).1] at this;exact this) fun e2 ob K2 hx hK2=>?_
    have hr2:rowOf ⟨e2,σ.objs⟩ id r=some row:=hrow
    unfold opW
    simp only[hx.1 x (by simp[Op.operands]),hx.1 y (by simp[Op.operands]),he,hr2]
    rw[(henv _).2]
    exact⟨hk,hW.1,hK2⟩
  case build t parts =>
    simp only at hW
    (repeat' split at hW)<;>first|exact hW.elim|refine dA hW.2 ?_
    all_goals
      intro e2 ob K2 hx hK2
      obtain ⟨h1,h2⟩:=parts_eq (parts:=parts) (by simpa [Op.operands] using hx.1)
      unfold opW
      simp only[h1,h2, *]
      simp[hW.1]
  case buildSlice t _ parts =>
    simp only at hW
    (repeat' split at hW)<;>first|exact hW.elim|refine dB (Nat.le_refl 3) (eff_push _ _) hW.2 ?_
    intro e2 ob K2 hx hK2
    obtain ⟨h1,h2⟩:=parts_eq (parts:=parts) (by simpa [Op.operands] using hx.1)
    unfold opW
    simp only[h1,h2, *]
    simp[hW.1]
  case makeFunc fn first captured =>
    simp only at hW
    split at hW<;>first|exact hW.elim|refine dA hW.2 fun e2 ob K2 hx hK2=>?_
    unfold opW
    simp only[List.map_congr_left (l:=captured.toList) (f:=ev ⟨e2,ob⟩) (g:=ev σ) fun y hy=>hx.1 y (by simp only[Op.operands,Array.toList_append,List.mem_append];exact .inr hy)]
    exact⟨hW.1,hK2⟩
  case binOp op t x y yt =>
    simp only at hW
    split at hW
    · rename_i k p k' q he hf
      obtain ⟨hk,hW⟩:=hW
      obtain ⟨v,hK,hl⟩:=intW_det hW
      refine dA hK fun e2 ob K2 hx hK2=>?_
      unfold opW
      simp[SmE,Op.operands,he,hf] at hx
      simp only[hx.1.1,hx.1.2]
      exact⟨hk,hl _ hK2⟩
    all_goals (repeat' split at hW)<;>first|exact hW.elim|exact hW.2.elim|refine dA hW.2 ?_
    all_goals
      intro e2 ob K2 hx hK2
      unfold opW
      simp[SmE,Op.operands, *] at hx ⊢
      first|done|(simp_all;done)
  case slice t x lo hi mx =>
    simp only at hW
    obtain ⟨hk,hke,rfl,hW⟩:=hW
    cases lo<;>cases hi<;>simp only[Option.map_some,Option.map_none] at hW
    all_goals (repeat' split at hW)<;>first|exact hW.elim|exact hW.2.elim|exact hW.2.2.elim|refine dA hW.2 ?_|refine dA hW.2.2 ?_|refine dA hW.2.2.2 ?_
    all_goals
      intro e2 ob K2 hx hK2
      unfold opW
      simp only[Option.some.injEq] at *
      simp[SmE,Op.operands,pointsTo,ObjC,cls, *] at hx ⊢
      first|done|(simp_all;done)|(obtain ⟨_,o',_,hk⟩:=hx;cases o'<;>simp_all [sameK];done)|(obtain ⟨_,⟨o',_,hk⟩,_⟩:=hx;cases o'<;>simp_all [sameK];done)|trace_state
  case makeMap t r =>
    simp only at hW
    obtain ⟨⟨rfl,hk⟩,hK⟩:=hW
    refine dB (Nat.le_refl 3) (eff_push _ _) hK fun e2 ob K2 hx hK2=>?_
    unfold opW
    exact⟨⟨rfl,hk⟩,hK2⟩
  case lookup t x i ok =>
    simp only at hW
    split at hW
    · rename_i ag l id ag' L z hki hmx hzz
      refine dA hW.2 fun e2 ob K2 hx hK2=>?_
      have h1:=hx.1 x (by simp[Op.operands])
      have h2:=hx.1 i (by simp[Op.operands])
      have h3:mpOf ⟨e2,ob⟩ (ev σ x)=some (id,ag',L):=mpOf_of (fun id' hid o ho=>by
        have:=hx.2 x (by simp[Op.operands]) id' (by rw[hid];rfl)
        unfold ObjC at this
        simp[cls] at this
        exact this o ho) hmx
      unfold opW
      simp only[h1,h2,hki,h3,hzz]
      exact⟨hW.1,hK2⟩
    · exact hW.elim
  case mapUpdate t m k x =>
    simp only at hW
    split at hW
    · rename_i hki hmx
      obtain ⟨hc0,hK0⟩:=hW
      refine dB (v:=.undef) (os:=_) (by simp[cls]) trivial hK0 fun e2 ob K2 hx hK2=>?_
      have h1:=hx.1 m (by simp[Op.operands])
      have h2:=hx.1 k (by simp[Op.operands])
      have h3:=hx.1 x (by simp[Op.operands])
      have h4:mpOf ⟨e2,σ.objs⟩ (ev σ m)=_:=hmx
      unfold opW
      simp only[h1,h2,h3,hki,h4]
      exact⟨hc0,hK2⟩
    · exact hW.elim
  case mapEntry t m k =>
    simp only at hW
    split at hW
    · rename_i hki hmx hzz
      obtain ⟨hc0,hK0⟩:=hW
      refine dB (v:=_) (os:=_) (by simp[cls]) trivial hK0 fun e2 ob K2 hx hK2=>?_
      have h1:=hx.1 m (by simp[Op.operands])
      have h2:=hx.1 k (by simp[Op.operands])
      have h4:mpOf ⟨e2,σ.objs⟩ (ev σ m)=_:=hmx
      unfold opW
      simp only[h1,h2,hki,h4,hzz]
      exact⟨hc0,hK2⟩
    · exact hW.elim
  case entryStore t m s x =>
    simp only at hW
    split at hW
    · rename_i hs hmx
      obtain ⟨hc0,hK0⟩:=hW
      refine dB (v:=.undef) (os:=_) (by simp[cls]) trivial hK0 fun e2 ob K2 hx hK2=>?_
      have h1:=hx.1 m (by simp[Op.operands])
      have h2:=hx.1 s (by simp[Op.operands])
      have h3:=hx.1 x (by simp[Op.operands])
      have h4:mpOf ⟨e2,σ.objs⟩ (ev σ m)=_:=hmx
      unfold opW
      simp only[h1,h2,h3,hs,h4]
      exact⟨hc0,hK2⟩
    · exact hW.elim
  all_goals (try simp only at hW);(try exact hW.elim)
  all_goals (repeat' split at hW)<;>first|exact hW.elim|exact hW.2.elim|exact hW.2.2.elim|refine dA hW ?_|refine dA hW.2 ?_|refine dA hW.2.2 ?_|refine dA hW.2.2.2 ?_|refine dB (Nat.le_refl 3) (eff_push _ _) hW.2 ?_|refine dB (Nat.le_refl 3) (eff_push _ _) hW.2.1 ?_
  all_goals
    intro e2 ob K2 hx hK2
    unfold opW
    simp[SmE,Op.operands,pointsTo,ObjC,cls,-List.all_eq_true, *] at hx ⊢
    first|done|(simp_all;done)|(obtain ⟨_,rfl,_⟩:=hW;simp_all;done)|(obtain ⟨_,o',_,hk⟩:=hx;cases o'<;>simp_all [sameK];done)
theorem opW_local {o:Oper} {σ:St} {K:St→Prop} (hW:opW P o σ K) :
    ∃ v os,Eff (cls o.op) σ.objs os∧K ((⟨σ.env,os⟩:St).put o.dst v)∧∀ (e2:Nat→AV) (K2:St→Prop),(∀ x∈o.op.operands.toList,ev ⟨e2,σ.objs⟩ x=ev σ x)→K2 ((⟨e2,os⟩:St).put o.dst v)→opW P o ⟨e2,σ.objs⟩ K2:=by
  obtain ⟨v,os,h1,h2,h3⟩:=opW_det hW
  refine⟨v,os,h1,h2,fun e2 K2 hx hK=>h3 e2 _ os K2 ⟨hx,fun _ _ _ _=>?_⟩ ?_ hK⟩
  · unfold ObjC
    (repeat' split)<;>first|trivial|exact fun o ho=>ho|exact fun o ho=>⟨o,ho,sameK_refl o⟩
  · split
    · rename_i hc;simpa [Eff,hc] using h1
    · exact⟨rfl,rfl⟩
theorem opW_value {o:Oper} {σ:St} {K:St→Prop} (hc:cls o.op≤2) (hW:opW P o σ K) :
    ∃ v,K (σ.put o.dst v)∧∀ (σ2:St) (K2:St→Prop),(∀ x∈o.op.operands.toList,ev σ2 x=ev σ x)→(∀ x∈o.op.operands.toList,∀ id,pointsTo (ev σ x)=some id→ObjC (cls o.op) σ.objs[id]? σ2.objs[id]?) →
      K2 (σ2.put o.dst v)→opW P o σ2 K2:=by
  obtain ⟨v,os,h1,h2,h3⟩:=opW_det hW
  simp only[Eff,hc,if_true] at h1 h3
  subst h1
  exact⟨v,h2,fun σ2 K2 hx ho hK=>h3 σ2.env σ2.objs _ K2 ⟨hx,ho⟩ rfl hK⟩
end Go.Am

