import Derived.Test.YtibijngmebpmmaaGreatAmE
set_option linter.unusedVariables false
set_option linter.unusedSimpArgs false
namespace Go.Am
variable {σ:St}
class Row {α:Type} (enc:α→List AV) (sz:outParam Nat):Prop where
  wid:∀ x,(enc x).length=sz
  ok:∀ x,∀ v∈enc x,(∃ y,v=.lit y∧y.oneCell'=true)∨∃ s r,v=.tree s r
def rowsOf {α:Type} (enc:α→List AV) (xs:List α):List (List AV):=xs.map enc
section
variable {α:Type} {enc:α→List AV} {sz:Nat}
theorem rows_length (xs:List α):(rowsOf enc xs).length=xs.length:=by simp[rowsOf]
theorem rows_getD [Inhabited α] (xs:List α) (i:Nat) (h:i<xs.length):(rowsOf enc xs).getD i []=enc (xs.getD i default):=by simp[rowsOf,h]
theorem rows_get [Inhabited α] (xs:List α) (i:Nat) (h:i<xs.length):(rowsOf enc xs)[i]?=some (enc (xs.getD i default)):=by simp[rowsOf,h]
theorem rows_take (xs:List α):(rowsOf enc xs).take xs.length=rowsOf enc xs:=by rw[List.take_of_length_le (by simp[rowsOf])]
theorem rows_app (xs ys:List α):rowsOf enc xs++rowsOf enc ys=rowsOf enc (xs++ys):=by simp[rowsOf]
theorem rows_app1 (xs:List α) (x:α):rowsOf enc xs++[enc x]=rowsOf enc (xs++[x]):=by simp[rowsOf]
theorem row_scal [Row enc sz] (x:α):(enc x).all scal=true:=by
  rw[List.all_eq_true]
  intro v hv
  rcases Row.ok (enc:=enc) x v hv with ⟨y,rfl,h⟩ | ⟨s,r,rfl⟩
  · simpa [scal] using h
  · rfl
theorem rows_scal [Row enc sz] (xs:List α):((rowsOf enc xs).all fun row=>row.all scal)=true:=by
  simp only[rowsOf,List.all_map,List.all_eq_true]
  intro x _
  exact row_scal (enc:=enc) x
theorem noRefL_of {l:List AV} (h:∀ v∈l,noRef v=true):noRefL l=true:=by
  induction l with
  | nil=>rfl
  | cons v l ih=>simp only[noRefL,Bool.and_eq_true];exact⟨h v (by simp),ih fun x hx=>h x (by simp[hx])⟩
theorem row_noRef [Row enc sz] (x:α):noRefL (enc x)=true:=noRefL_of fun v hv=>by
  rcases Row.ok (enc:=enc) x v hv with ⟨y,rfl,_⟩ | ⟨s,r,rfl⟩<;>rfl
theorem rows_ren [Row enc sz] (ρ:Nat→Nat) (s:Nat) (xs:List α):renO ρ (.arr s (rowsOf enc xs))=.arr s (rowsOf enc xs):=renO_noRef (by
  intro row hr
  simp only[rowsOf,List.mem_map] at hr
  obtain ⟨x,_,rfl⟩:=hr
  exact row_noRef (enc:=enc) x)
theorem rows_frz [Row enc sz] (xs:List α):∀ row∈rowsOf enc xs,∀ v∈row,(∃ x,v=AV.lit x)∨∃ s r,v=AV.tree s r:=by
  intro row hr v hv
  simp only[rowsOf,List.mem_map] at hr
  obtain ⟨x,_,rfl⟩:=hr
  rcases Row.ok (enc:=enc) x v hv with ⟨y,rfl,_⟩ | h
  · exact .inl ⟨_,rfl⟩
  · exact .inr h
theorem rows_wid [Row enc sz] (xs:List α):∀ row∈rowsOf enc xs,row.length=sz:=by
  intro row hr
  simp only[rowsOf,List.mem_map] at hr
  obtain ⟨x,_,rfl⟩:=hr
  exact Row.wid (enc:=enc) x
end
structure Opt where
  wk:Int
  day:Int
  st:Int
  len:Int
  room:Int
  ch:List (Int × Int)
  deriving Inhabited
structure Pr where
  fst:Int
  snd:Int
  rule:Int
  tab:List Int
  deriving Inhabited
structure Ld where
  cls:Int
  opt:Int
  wt:Int
  deriving Inhabited
structure Ct where
  rule:Int
  loads:List Ld
  most:Int
  pen:Int
  deriving Inhabited
structure Mdl where
  cls:List (List Opt)
  prs:List Pr
  cts:List Ct
  rules:Int
  deriving Inhabited
def i64 (n:Int):AV:=.lit (.int .i64 n)
def eCh (c:Int × Int):List AV:=[.lit (.int .i64 c.1),.lit (.int .i64 c.2)]
def eOpt (o:Opt):List AV:=[.lit (.int .i64 o.wk),.lit (.int .i64 o.day),.lit (.int .i64 o.st),.lit (.int .i64 o.len),.lit (.int .i64 o.room),.tree 2 (rowsOf eCh o.ch)]
def eCls (l:List Opt):List AV:=[.tree 6 (rowsOf eOpt l)]
def ePr (p:Pr):List AV:=[.lit (.int .i64 p.fst),.lit (.int .i64 p.snd),.lit (.int .i64 p.rule),.tree 1 (ints p.tab)]
def eLd (l:Ld):List AV:=[.lit (.int .i64 l.cls),.lit (.int .i64 l.opt),.lit (.int .i64 l.wt)]
def eCt (c:Ct):List AV:=[.lit (.int .i64 c.rule),.tree 3 (rowsOf eLd c.loads),.lit (.int .i64 c.most),.lit (.int .i64 c.pen)]
def eMdl (m:Mdl):List AV:=[.tree 1 (rowsOf eCls m.cls),.tree 4 (rowsOf ePr m.prs),.tree 4 (rowsOf eCt m.cts),.lit (.int .i64 m.rules)]
theorem rowOk {l:List AV} (h:(l.all fun v=>match v with | .lit y=>y.oneCell' | .tree ..=>true | _=>false)=true):∀ v∈l,(∃ y,v=AV.lit y∧y.oneCell'=true)∨∃ s r,v=AV.tree s r:=by
  intro v hv
  have:=List.all_eq_true.1 h v hv
  cases v<;>simp at this
  · exact .inl ⟨_,rfl,this⟩
  · exact .inr ⟨_,_,rfl⟩
instance:Row eCh 2:=⟨fun _=>rfl,fun _=>rowOk rfl⟩
instance:Row eOpt 6:=⟨fun _=>rfl,fun _=>rowOk rfl⟩
instance:Row eCls 1:=⟨fun _=>rfl,fun _=>rowOk rfl⟩
instance:Row ePr 4:=⟨fun _=>rfl,fun _=>rowOk rfl⟩
instance:Row eLd 3:=⟨fun _=>rfl,fun _=>rowOk rfl⟩
instance:Row eCt 4:=⟨fun _=>rfl,fun _=>rowOk rfl⟩
instance:Row eMdl 4:=⟨fun _=>rfl,fun _=>rowOk rfl⟩
end Go.Am
namespace Go.Am
variable {P:Program}
def HoldsR (P:Program) (f:FuncId) (args:List AV) (objs:List Ob) (Post:AV→List Ob→Prop):Prop :=
  Callable P f∧∀ γ:Cx,γ.tmps.size=args.length→Sim ⟨fun k=>args.getD k .undef,objs⟩ γ →
    Calls P f γ.tmps γ.w (fun e w'=>∃ res objs' cv γ',Post res objs'∧e=.returned cv∧γ'.w=w'∧γ'.tmps = #[cv]∧Sim ⟨fun k=>[res].getD k .undef,objs'⟩ γ'∧Fr objs γ objs' γ')
def callWR (P:Program) (f:FuncId) (args:List AV) (σ:St) (K:AV→St→Prop):Prop :=
  ∃ (sel:List Nat) (snap:Bool) (cargs:List AV) (cobjs:List Ob) (Post:AV→List Ob→Prop),HoldsR P f cargs cobjs Post ∧
    (sel.Nodup∧cobjs.length=sel.length∧(∀ (j:Nat) o,cobjs[j]?=some o→σ.objs[sel.getD j 0]?=some (renO (rho σ.objs.length sel) o)) ∧
      cargs.length=args.length∧(∀ (j:Nat) c d,cargs[j]?=some c→args[j]?=some d→ArgR σ (·∈sel) (rho σ.objs.length sel) snap c d)) ∧
    ∀ res cobjs',Post res cobjs'→(snap=true→flat res=true∧∀ o∈cobjs',flatO o) ∧
      K (ren (rho σ.objs.length sel) res) { σ with objs:=mergeO σ.objs sel (cobjs'.map (renO (rho σ.objs.length sel))) }
theorem call_soundR {σ:St} {γ:Cx} (h:Sim σ γ) {f:FuncId} {args:List AV} {argv:Array Value} (hsz:argv.size=args.length) (harg:∀ (j:Nat) d,args[j]?=some d→RelV σ.objs γ.w γ.Z γ.blk d (argv.getD j Go.undef))
    {K:AV→St→Prop} (hc:callWR P f args σ K) :
    Calls P f argv γ.w (fun e w'=>∃ cv v σ' γ',e=.returned cv∧γ'.w=w'∧γ'.tmps=γ.tmps∧Sim σ' γ'∧Fr σ.objs γ σ'.objs γ'∧RelV σ'.objs γ'.w γ'.Z γ'.blk v cv∧K v σ'∧σ'.env=σ.env):=by
  obtain ⟨sel,snap,cargs,cobjs,Post,hH,⟨hnd,hcl,hco,hal,hargs⟩,hKP⟩:=hc
  have hsl:∀ i∈sel,i<σ.objs.length:=by
    intro i hi
    obtain ⟨j,hj,rfl⟩:=exists_sel hi
    have:j<cobjs.length:=by omega
    exact (List.getElem?_eq_some_iff.1 (hco j cobjs[j] (by simp[this]))).1
  let ρ:=rho σ.objs.length sel
  let S:Nat→Prop:=fun b=>snap=true∧∃ id o cap,id ∉ sel∧Live σ.objs id∧γ.blk id=some (b,o,cap)
  let γc:Cx:={ w:=γ.w,tmps:=argv,Z:=fun b=>γ.Z b∨S b,blk:=fun j=>if j<sel.length then γ.blk (sel.getD j 0) else none }
  have hdown:∀ j x,σ.objs[ρ j]?=some x→∃ o,cobjs[j]?=some o∧(o=.gone∨(x=renO ρ o∧γc.blk j=γ.blk (ρ j))):=by
    intro j x hx
    obtain ⟨hj,hr⟩:=rho_lt hsl (List.getElem?_eq_some_iff.1 hx).1
    have hjc:j<cobjs.length:=by omega
    have:=hco j cobjs[j] (by simp[hjc])
    refine⟨cobjs[j],by simp[hjc],.inr ⟨?_,?_⟩⟩
    · have hx':σ.objs[rho σ.objs.length sel j]?=some x:=hx
      rw[hr,this] at hx'
      simpa using hx'.symm
    · show (if j<sel.length then γ.blk (sel.getD j 0) else none)=γ.blk (rho σ.objs.length sel j)
      rw[if_pos hj,hr]
  have hzc:∀ b,γ.Z b→γc.Z b:=fun b hb=>.inl hb
  have hclive:∀ j,Live cobjs j→Live σ.objs (sel.getD j 0)∧j<sel.length:=by
    rintro j ⟨o,ho,hg⟩
    have hj:=(List.getElem?_eq_some_iff.1 ho).1
    exact⟨⟨_,hco j o ho,fun e=>hg (renO_gone.1 e)⟩,by omega⟩
  have hblt:=fun {i b o c}=>h.blt (i:=i) (b:=b) (o:=o) (c:=c)
  have hsimc:Sim ⟨fun k=>cargs.getD k .undef,cobjs⟩ γc:=by
    refine⟨fun k=>?_,?_,?_,?_,?_⟩
    · rcases Nat.lt_or_ge k cargs.length with hk | hk
      · have e:cargs.getD k .undef=cargs[k]:=by simp[hk]
        show RelV cobjs γc.w γc.Z γc.blk (cargs.getD k .undef) _
        rw[e]
        have hka:k<args.length:=by omega
        exact (hargs k cargs[k] args[k] (by simp[hk]) (by simp[hka])).rel h hzc rfl (fun hs id b o cap hid hl hb=>.inr ⟨hs,id,o,cap,hid,hl,hb⟩) hdown _ (harg k _ (by simp[hka]))
      · have e:cargs.getD k .undef=.undef:=by simp[hk]
        show RelV cobjs γc.w γc.Z γc.blk (cargs.getD k .undef) _
        rw[e]
        exact .undef _
    · intro j o ho
      have hj:=(List.getElem?_eq_some_iff.1 ho).1
      have hjs:j<sel.length:=by rw[← hcl];exact hj
      have hob:=h.obs _ _ (hco j o ho)
      have hb:γc.blk j=γ.blk (sel.getD j 0):=by show (if j<sel.length then _ else _)=_;rw[if_pos hjs]
      cases o with
      | gone=>trivial
      | var cells =>
        obtain ⟨b,cap,cur,t,h1,h2,h3,h4⟩:=hob
        exact⟨b,cap,cur,t,hb.trans h1,h2,by simpa using h3,fun c v hv=>(h4 c (ren ρ v) (by simp[hv];rfl)).down hzc hdown v rfl⟩
      | arr sz rows =>
        obtain ⟨h0,hr,hob⟩:=hob
        refine⟨h0,fun row hrow=>by simpa using hr (row.map (ren ρ)) (List.mem_map_of_mem hrow),?_⟩
        rcases hob with ⟨h1,h2⟩ | ⟨b,o,cap,cur,t,h1,h2,h3,h4,h5,h6⟩
        · exact .inl ⟨hb.trans h1,by simpa using h2⟩
        · refine .inr ⟨b,o,cap,cur,t,hb.trans h1,h2,h3,by simpa using h4,h5,fun r c v hv=>(h6 r c (ren ρ v) ?_).down hzc hdown v rfl⟩
          simp only[cellAt,List.getElem?_map] at hv ⊢
          cases hrr:rows[r]? with
          | none=>simp[hrr] at hv
          | some row=>simp[hrr] at hv ⊢;exact⟨v,hv,rfl⟩
    · intro i j b o c o' c' hi hj hbi hbj
      obtain ⟨h1,h2⟩:=hclive i hi
      obtain ⟨h3,h4⟩:=hclive j hj
      have e1:γc.blk i=γ.blk (sel.getD i 0):=by show (if i<sel.length then _ else _)=_;rw[if_pos h2]
      have e2:γc.blk j=γ.blk (sel.getD j 0):=by show (if j<sel.length then _ else _)=_;rw[if_pos h4]
      exact nodup_getD hnd h2 h4 (h.inj _ _ b o c o' c' h1 h3 (e1 ▸ hbi) (e2 ▸ hbj))
    · rintro b ⟨i,o,c,hi,hb⟩ hz
      obtain ⟨h1,h2⟩:=hclive i hi
      have e1:γc.blk i=γ.blk (sel.getD i 0):=by show (if i<sel.length then _ else _)=_;rw[if_pos h2]
      rw[e1] at hb
      rcases hz with hz | ⟨_,id,o',cap',hid,hl,hb'⟩
      · exact h.nz b ⟨_,o,c,h1,hb⟩ hz
      · have:=h.inj _ _ b o c o' cap' h1 hl hb hb'
        exact hid (this ▸ getD_mem h2)
    · rintro b (hb | ⟨_,id,o,cap,_,hl,hb⟩)
      · exact h.zlt b hb
      · exact hblt hl hb
  have hcall:=hH.2 γc (by show argv.size=_;omega) hsimc
  refine hcall.mono ?_
  rintro e w' ⟨res,cobjs',cv,γ',hpost,rfl,rfl,htm,hs',hf'⟩
  obtain ⟨hflat,hK⟩:=hKP res cobjs' hpost
  have hlen':sel.length≤cobjs'.length:=by have:=hf'.len;omega
  let new:=cobjs'.map (renO ρ)
  have hnl:sel.length≤new.length:=by simpa [new] using hlen'
  let objs'':=mergeO σ.objs sel new
  let γ'':Cx:={ w:=γ'.w,tmps:=γ.tmps,Z:=fun b=>γ'.Z b∧¬ S b,blk:=fun i=>if i<σ.objs.length then γ.blk i else γ'.blk (sel.length+(i - σ.objs.length)) }
  have hup:∀ j o,cobjs'[j]?=some o→objs''[ρ j]?=some (renO ρ o)∧(o≠.gone→γ''.blk (ρ j)=γ'.blk j):=by
    intro j o ho
    by_cases hj:j<sel.length
    · have e:ρ j=sel.getD j 0:=by show rho _ _ _=_;simp only[rho];rw[if_pos hj]
      have hmem:=hsl _ (getD_mem hj)
      refine⟨?_,fun hg=>?_⟩
      · rw[e]
        show (mergeO σ.objs sel new)[sel.getD j 0]?=_
        rw[mergeO_sel sel σ.objs new hnl hnd hsl j hj]
        simp[new,ho]
      · rw[e]
        show (if sel.getD j 0<σ.objs.length then _ else _)=_
        rw[if_pos hmem]
        have:=(hf'.old j (by omega) ⟨o,ho,hg⟩).1
        rw[this]
        show _=if j<sel.length then _ else _
        rw[if_pos hj]
    · have e:ρ j=σ.objs.length+(j - sel.length):=by show rho _ _ _=_;simp only[rho];rw[if_neg hj]
      have e2:sel.length+(j - sel.length)=j:=by omega
      refine⟨?_,fun hg=>?_⟩
      · rw[e]
        show (mergeO σ.objs sel new)[_]?=_
        rw[mergeO_new sel σ.objs new hnl,e2]
        simp[new,ho]
      · rw[e]
        show (if σ.objs.length+(j - sel.length)<σ.objs.length then _ else γ'.blk (sel.length+(σ.objs.length+(j - sel.length) - σ.objs.length)))=_
        rw[if_neg (by omega)]
        congr 1;omega
  have hSz:∀ b,S b→¬ γ.Z b:=by
    rintro b ⟨_,id,o,cap,_,hl,hb⟩
    exact h.nz b ⟨id,o,cap,hl,hb⟩
  have hownc:∀ b,Owned cobjs γc.blk b→∃ i∈sel,∃ o cap,Live σ.objs i∧γ.blk i=some (b,o,cap):=by
    rintro b ⟨j,o,c,hl,hb⟩
    obtain ⟨h1,h2⟩:=hclive j hl
    have e1:γc.blk j=γ.blk (sel.getD j 0):=by show (if j<sel.length then _ else _)=_;rw[if_pos h2]
    exact⟨_,getD_mem h2,o,c,h1,e1 ▸ hb⟩
  have hkeep:∀ i,i ∉ sel→Live σ.objs i→∀ b o c,γ.blk i=some (b,o,c)→γ'.w.heap[b]?=γ.w.heap[b]?:=by
    intro i hi hl b o c hb
    refine hf'.keep b (hblt hl hb) (fun ho=>?_)
    obtain ⟨i',hi',o',c',hl',hb'⟩:=hownc b ho
    have:=h.inj _ _ b o c o' c' hl hl' hb hb'
    exact hi (this ▸ hi')
  have hkeepR:∀ v cv,RelV σ.objs γ.w γ.Z γ.blk v cv→RelV objs'' γ''.w γ''.Z γ''.blk v cv:=by
    intro v cv hv
    refine hv.mono (fun b hb=>⟨⟨hf'.z0 b (hzc b hb),fun hs=>hSz b hs hb⟩,?_⟩) (fun i o ho=>?_)
    · refine hf'.keep b (h.zlt b hb) (fun ho=>?_)
      obtain ⟨i',_,o',c',hl',hb'⟩:=hownc b ho
      exact h.nz b ⟨i',o',c',hl',hb'⟩ hb
    · have hi:=(List.getElem?_eq_some_iff.1 ho).1
      have hbk:γ''.blk i=γ.blk i:=by show (if i<σ.objs.length then _ else _)=_;rw[if_pos hi]
      by_cases his:i∈sel
      · obtain ⟨j,hj,rfl⟩:=exists_sel his
        have hjc:j<cobjs'.length:=by omega
        have hob'':objs''[sel.getD j 0]?=some (renO ρ cobjs'[j]):=by
          show (mergeO σ.objs sel new)[sel.getD j 0]?=_
          rw[mergeO_sel sel σ.objs new hnl hnd hsl j hj]
          simp[new,hjc]
        by_cases hg:cobjs'[j]=.gone
        · left;rw[hob'',hg];rfl
        · right
          refine⟨hbk,_,hob'',?_⟩
          obtain ⟨_,x,x',hx,hx',hlk⟩:=hf'.old j (by omega) ⟨cobjs'[j],by simp[hjc],hg⟩
          have e1:cobjs'[j]=x':=by simpa [hjc] using hx'
          have e2:=hco j x hx
          rw[ho] at e2
          simp at e2
          rw[e1,e2]
          cases x<;>cases x'<;>simp_all [Ob.like,renO]
      · have hob'':objs''[i]?=some o:=by
          show (mergeO σ.objs sel new)[i]?=_
          rw[mergeO_other sel σ.objs new hnl i his hi];exact ho
        by_cases hg:o=.gone
        · subst hg;exact .inl hob''
        · exact .inr ⟨hbk,o,hob'',Ob.like_refl hg⟩
  have hupR:∀ v cv,RelV cobjs' γ'.w γ'.Z γ'.blk v cv→(snap=true→flat v=true)→RelV objs'' γ''.w γ''.Z γ''.blk (ren ρ v) cv:=by
    intro v cv hv hfl
    by_cases hsn:snap=true
    · exact (hv.flatZ (Z':=γ''.Z) (hfl hsn)).up (fun b hb=>hb) hup
    · exact hv.up (fun b hb=>⟨hb,fun hs=>hsn hs.1⟩) hup
  have hl2:∀ i,Live objs'' i→(i<σ.objs.length∧i ∉ sel∧Live σ.objs i∧γ''.blk i=γ.blk i)∨∃ j,Live cobjs' j∧i=ρ j∧γ''.blk i=γ'.blk j:=by
    rintro i ⟨o,ho,hg⟩
    have hlen:=(List.getElem?_eq_some_iff.1 ho).1
    have hml:objs''.length=σ.objs.length+(new.length - sel.length):=mergeO_length sel σ.objs new hnl
    have hnn:new.length=cobjs'.length:=by simp[new]
    rcases Nat.lt_or_ge i σ.objs.length with hi | hi
    · by_cases his:i∈sel
      · right
        obtain ⟨j,hj,rfl⟩:=exists_sel his
        have hjc:j<cobjs'.length:=by omega
        have e:ρ j=sel.getD j 0:=by show rho _ _ _=_;simp only[rho];rw[if_pos hj]
        have hx:=hup j cobjs'[j] (by simp[hjc])
        rw[e] at hx
        rw[ho] at hx
        simp only[Option.some.injEq] at hx
        have hg':cobjs'[j]≠.gone:=by intro h0;apply hg;rw[hx.1,h0];rfl
        exact⟨j,⟨_,by simp[hjc],hg'⟩,e.symm,hx.2 hg'⟩
      · left
        have:objs''[i]?=σ.objs[i]?:=mergeO_other sel σ.objs new hnl i his hi
        rw[this] at ho
        exact⟨hi,his,⟨o,ho,hg⟩,by show (if i<σ.objs.length then _ else _)=_;rw[if_pos hi]⟩
    · right
      have hjc:sel.length+(i - σ.objs.length)<cobjs'.length:=by omega
      have e:ρ (sel.length+(i - σ.objs.length))=i:=by
        show rho _ _ _=_
        simp only[rho]
        rw[if_neg (by omega)];omega
      have hx:=hup _ _ (show cobjs'[sel.length+(i - σ.objs.length)]?=some cobjs'[sel.length+(i - σ.objs.length)] by simp[hjc])
      rw[e] at hx
      rw[ho] at hx
      simp only[Option.some.injEq] at hx
      have hg':cobjs'[sel.length+(i - σ.objs.length)]≠.gone:=by intro h0;apply hg;rw[hx.1,h0];rfl
      exact⟨_,⟨_,by simp[hjc],hg'⟩,e.symm,hx.2 hg'⟩
  have hownnew:∀ j b o c,Live cobjs' j→γ'.blk j=some (b,o,c)→(∃ i∈sel,∃ o cap,Live σ.objs i∧γ.blk i=some (b,o,cap))∨γ.w.heap.size≤b:=by
    intro j b o c hl hb
    rcases hf'.own b ⟨j,o,c,hl,hb⟩ with h1 | h1
    · exact .inl (hownc b h1)
    · exact .inr h1
  have hsim'':Sim ⟨σ.env,objs''⟩ γ'':=by
    refine⟨fun k=>hkeepR _ _ (h.slots k),?_,?_,?_,?_⟩
    · intro i o ho
      by_cases hgo:o=.gone
      · subst hgo;trivial
      rcases hl2 i ⟨o,ho,hgo⟩ with ⟨hi,his,hl,hbk⟩ | ⟨j,⟨x,hx,hgx⟩,rfl,hbk⟩
      · have he:objs''[i]?=σ.objs[i]?:=mergeO_other sel σ.objs new hnl i his hi
        have ho':σ.objs[i]?=some o:=by rw[← he];exact ho
        exact (h.obs i o ho').mono hkeepR hbk (fun b o c hb=>hkeep i his hl b o c hb)
      · have hx2:=(hup j x hx).1
        have e:o=renO ρ x:=by
          have:objs''[ρ j]?=some o:=ho
          rw[hx2] at this;simpa using this.symm
        subst e
        have hob:=hs'.obs j x hx
        have hfl:snap=true→flatO x:=fun hs=>(hflat hs).2 x (List.mem_of_getElem? hx)
        cases x with
        | gone=>trivial
        | var cells =>
          obtain ⟨b,cap,cur,t,h1,h2,h3,h4⟩:=hob
          refine⟨b,cap,cur,t,hbk.trans h1,h2,by simpa using h3,fun c v hv=>?_⟩
          simp only[List.getElem?_map,Option.map_eq_some_iff] at hv
          obtain ⟨y,hy,rfl⟩:=hv
          exact hupR _ _ (h4 c y hy) (fun hs=>hfl hs y (List.mem_of_getElem? hy))
        | arr sz rows =>
          obtain ⟨h0,hr,hob⟩:=hob
          refine⟨h0,?_,?_⟩
          · intro row hrow
            simp only[List.mem_map] at hrow
            obtain ⟨y,hy,rfl⟩:=hrow
            simpa using hr y hy
          · rcases hob with ⟨h1,h2⟩ | ⟨b,o,cap,cur,t,h1,h2,h3,h4,h5,h6⟩
            · exact .inl ⟨hbk.trans h1,by simpa using h2⟩
            · refine .inr ⟨b,o,cap,cur,t,hbk.trans h1,h2,h3,by simpa using h4,h5,fun r c v hv=>?_⟩
              simp only[cellAt,List.getElem?_map] at hv
              cases hrr:rows[r]? with
              | none=>simp[hrr] at hv
              | some row =>
                simp only[hrr,Option.map_some,Option.bind_some,List.getElem?_map,Option.map_eq_some_iff] at hv
                obtain ⟨y,hy,rfl⟩:=hv
                exact hupR _ _ (h6 r c y (by simp[cellAt,hrr,hy])) (fun hs=>hfl hs row (List.mem_of_getElem? hrr) y (List.mem_of_getElem? hy))
    · intro i j b o c o' c' hi hj hbi hbj
      rcases hl2 i hi with ⟨hil,his,hli,hbk⟩ | ⟨ji,hji,rfl,hbk⟩<;>rcases hl2 j hj with ⟨hjl,hjs,hlj,hbk'⟩ | ⟨jj,hjj,rfl,hbk'⟩
      · exact h.inj i j b o c o' c' hli hlj (hbk ▸ hbi) (hbk' ▸ hbj)
      · rw[hbk] at hbi
        rw[hbk'] at hbj
        rcases hownnew jj b o' c' hjj hbj with ⟨i',hi',o1,c1,hl',hb'⟩ | hge
        · exact absurd (h.inj i i' b o c o1 c1 hli hl' hbi hb') (fun e=>his (e ▸ hi'))
        · have:=hblt hli hbi;omega
      · rw[hbk] at hbi
        rw[hbk'] at hbj
        rcases hownnew ji b o c hji hbi with ⟨i',hi',o1,c1,hl',hb'⟩ | hge
        · exact absurd (h.inj j i' b o' c' o1 c1 hlj hl' hbj hb') (fun e=>hjs (e ▸ hi'))
        · have:=hblt hlj hbj;omega
      · rw[hbk] at hbi
        rw[hbk'] at hbj
        rw[hs'.inj ji jj b o c o' c' hji hjj hbi hbj]
    · rintro b ⟨i,o,c,hi,hb⟩ ⟨hz,hns⟩
      rcases hl2 i hi with ⟨hil,his,hli,hbk⟩ | ⟨ji,hji,rfl,hbk⟩
      · rw[hbk] at hb
        rcases hf'.z1 b hz with (h1 | h1) | h1 | h1
        · exact h.nz b ⟨i,o,c,hli,hb⟩ h1
        · exact hns h1
        · obtain ⟨i',hi',o1,c1,hl',hb'⟩:=hownc b h1
          exact his ((h.inj i i' b o c o1 c1 hli hl' hb hb') ▸ hi')
        · have:=hblt hli hb
          have h1':γ.w.heap.size≤b:=h1
          omega
      · rw[hbk] at hb
        exact hs'.nz b ⟨ji,o,c,hji,hb⟩ hz
    · rintro b ⟨hz,_⟩
      exact hs'.zlt b hz
  refine⟨cv,ren ρ res,⟨σ.env,objs''⟩,γ'',rfl,rfl,rfl,hsim'',?_,?_,hK,rfl⟩
  · refine⟨hf'.eos,hf'.tape,hf'.output,hf'.size,?_,?_,?_,?_,?_,?_⟩
    · intro b hb hno
      refine hf'.keep b hb (fun ho=>hno ?_)
      obtain ⟨i',_,o1,c1,hl',hb'⟩:=hownc b ho
      exact⟨i',o1,c1,hl',hb'⟩
    · intro b hb
      exact⟨hf'.z0 b (hzc b hb),fun hs=>hSz b hs hb⟩
    · rintro b ⟨hz,hns⟩
      rcases hf'.z1 b hz with (h1 | h1) | h1 | h1
      · exact .inl h1
      · exact absurd h1 hns
      · obtain ⟨i',_,o1,c1,hl',hb'⟩:=hownc b h1
        exact .inr (.inl ⟨i',o1,c1,hl',hb'⟩)
      · exact .inr (.inr h1)
    · rintro b ⟨i,o,c,hi,hb⟩
      rcases hl2 i hi with ⟨hil,his,hli,hbk⟩ | ⟨ji,hji,rfl,hbk⟩
      · rw[hbk] at hb;exact .inl ⟨i,o,c,hli,hb⟩
      · rw[hbk] at hb
        rcases hownnew ji b o c hji hb with ⟨i',_,o1,c1,hl',hb'⟩ | hge
        · exact .inl ⟨i',o1,c1,hl',hb'⟩
        · exact .inr hge
    · show σ.objs.length≤(mergeO σ.objs sel new).length
      rw[mergeO_length sel σ.objs new hnl];omega
    · rintro i hi ⟨o,ho,hg⟩
      refine⟨by show (if i<σ.objs.length then _ else _)=_;rw[if_pos hi],?_⟩
      by_cases his:i∈sel
      · obtain ⟨j,hj,rfl⟩:=exists_sel his
        have hjc:j<cobjs'.length:=by omega
        have hob'':objs''[sel.getD j 0]?=some (renO ρ cobjs'[j]):=by
          show (mergeO σ.objs sel new)[sel.getD j 0]?=_
          rw[mergeO_sel sel σ.objs new hnl hnd hsl j hj]
          simp[new,hjc]
        have ho2:objs''[sel.getD j 0]?=some o:=ho
        rw[hob''] at ho2
        simp only[Option.some.injEq] at ho2
        have hg':cobjs'[j]≠.gone:=by intro h0;apply hg;rw[← ho2,h0];rfl
        obtain ⟨_,x,x',hx,hx',hlk⟩:=hf'.old j (by omega) ⟨cobjs'[j],by simp[hjc],hg'⟩
        have e1:cobjs'[j]=x':=by simpa [hjc] using hx'
        refine⟨renO ρ x,o,hco j x hx,ho,?_⟩
        rw[← ho2,e1]
        cases x<;>cases x'<;>simp_all [Ob.like,renO]
      · have he:objs''[i]?=σ.objs[i]?:=mergeO_other sel σ.objs new hnl i his hi
        have ho':σ.objs[i]?=some o:=by rw[← he];exact ho
        exact⟨o,o,ho',ho,Ob.like_refl hg⟩
  · have:=hs'.slots 0
    rw[htm] at this
    exact hupR res cv (by simpa using this) (fun hs=>(hflat hs).1)
variable {N n0:Nat} {Q:Exit→St→Prop} {σ:St}
def retR (P:Program) (n0:Nat) (rs:List ResultVar) (Post:AV→List Ob→Prop):Exit→St→Prop
  | .normal,s=>resW s P rs fun vs=>∃ res objs',Post res objs'∧RetOK n0 s (retV vs) res objs'
  | .ret,s=>resW s P rs fun vs=>∃ res objs',Post res objs'∧RetOK n0 s (retV vs) res objs'
  | _,_=>False
theorem HoldsR.of_body {f : FuncId} {fn : Func} {c : Code} {args : List AV} {objs : List Ob} {Post : AV → List Ob → Prop} (hf : P.funcs[f]? = some fn) (hb : fn.body = some c) (hname : (fn.name == "runtime.NumGoroutine") = false)
    (hN:args.length≤fn.ntmps) (h:W P fn.ntmps objs.length c (retR P objs.length fn.results.toList Post) ⟨fun k=>args.getD k .undef,objs⟩):HoldsR P f args objs Post:=by
  refine⟨⟨fn,hf,hname,by rw[hb];rfl⟩,?_⟩
  intro γ hsz hs
  refine calls_of_wp hf hb ?_
  let tm:=γ.tmps++Array.replicate (fn.ntmps - γ.tmps.size) Go.undef
  have hok:Okay fn.ntmps objs γ ⟨fun k=>args.getD k .undef,objs⟩ { tmps:=tm,defers:=[] } γ.w:=by
    refine⟨rfl,by simp[tm];omega,{ γ with tmps:=tm },rfl,rfl,⟨fun k=>?_,hs.obs,hs.inj,hs.nz,hs.zlt⟩,(Fr.refl _ _).put _⟩
    rcases Nat.lt_or_ge k args.length with hk | hk
    · have:=hs.slots k
      have e:tm.getD k Go.undef=γ.tmps.getD k Go.undef:=by
        simp only[tm,Array.getD_eq_getD_getElem?]
        rw[Array.getElem?_append_left (by omega)]
      show RelV _ _ _ _ _ (tm.getD k Go.undef)
      rw[e];exact this
    · have e:args.getD k AV.undef=.undef:=by simp[hk]
      show RelV _ _ _ _ (args.getD k .undef) _
      rw[e];exact .undef _
  refine wp_mono (h objs γ _ γ.w rfl hok) ?_
  rintro e a' w' ⟨σ',h1,hdf,_,γ',rfl,ha,hs',hf'⟩
  have fin:∀ (K:List AV→Prop),resW σ' P fn.results.toList K→(∀ vs,K vs→∃ res objs',Post res objs'∧RetOK objs.length σ' (retV vs) res objs') →
      a'.defers=[]∧∃ v,(results fn a'.tmps).run P γ'.w=.ok v γ'.w∧∃ res objs' cv γ'',Post res objs'∧Ending.returned v=.returned cv∧γ''.w=γ'.w∧γ''.tmps = #[cv]∧Sim ⟨fun k=>[res].getD k .undef,objs'⟩ γ''∧Fr objs γ objs' γ'':=by
    intro K hK hKR
    obtain ⟨vs,cvs,k1,k2,k3,k4,k5⟩:=resW_sound hs' _ _ hK
    obtain ⟨res,objs',hpost,sel,snap,r1,r2,r3,r4,r5,r6,r7⟩:=hKR vs k1
    refine⟨hdf,?_⟩
    have hrun :∃v,(results fn a'.tmps).run P γ'.w=.ok v γ'.w∧RelV σ'.objs γ'.w γ'.Z γ'.blk (retV vs) v:=by
      have hm:(fn.results.mapM fun (r:ResultVar)=>match r with | .tmp t=>(pure (a'.tmps.getD t Go.undef):Sem Value) | .cell a t=>do loadVar t (← asAddr (a'.tmps.getD a Go.undef))).run P γ'.w=.ok cvs.toArray γ'.w:=by
        rw[Array.mapM_eq_mapM_toList,Sem.run_map,← ha]
        exact congrArg (fun (r:Result (List Value))=>r.andThen fun a w'=>Result.ok a.toArray w') k2
      have hr:(results fn a'.tmps).run P γ'.w=.ok (if h:cvs.toArray.size=1 then cvs.toArray[0] else .tuple cvs.toArray) γ'.w:=by
        unfold results
        rw[Sem.run_bind]
        exact congrArg (fun r=>Result.andThen r fun (a:Array Value) w'=>(pure (if h:a.size=1 then a[0] else Value.tuple a):Sem Value).run P w') hm
      rw[hr]
      match vs,cvs,k3,k5 with
      | [],[],_,k5=>exact⟨_,rfl,.tup _ _ rfl (fun j x hj=>by simp at hj)⟩
      | [v],[cv],_,k5=>exact⟨cv,by simp,by simpa [retV] using k5 0 v rfl⟩
      | v::v'::vs,cv::cv'::cvs,k3,k5 =>
        refine⟨.tuple (cv::cv'::cvs).toArray,by simp,.tup _ _ (by simpa using k3) (fun j x hj=>?_)⟩
        have:=k5 j x hj
        simpa [List.getD_eq_getElem?_getD,Array.getD_eq_getD_getElem?] using this
    obtain ⟨v,hv1,hv2⟩:=hrun
    obtain ⟨γ'',e1,e2,e3,e4⟩:=hs'.select sel snap objs' r1 r2 r3 r4 (fun k=>[res].getD k .undef) #[v] (fun k=>by
      cases k with
      | zero=>exact .inr ⟨_,r7,by simpa using hv2⟩
      | succ k=>left;simp)
    exact⟨v,hv1,res,objs',v,γ'',hpost,rfl,e1,e2,e3,hf'.select r5 r2 r6 e1 e4⟩
  cases e with
  | normal=>exact fin _ h1 (fun _ h=>h)
  | ret=>exact fin _ h1 (fun _ h=>h)
  | exit id=>exact h1.elim
  | goto l=>exact h1.elim
  | panic c=>exact h1.elim
  | outgrown=>exact h1.elim
theorem HoldsR.of_body' {f : FuncId} {fn : Func} {c : Code} {args : List AV} {objs : List Ob} {Post : AV → List Ob → Prop} (N k : Nat) (rs : List ResultVar) (hf : P.funcs[f]? = some fn) (hb : fn.body = some c) (hname : (fn.name == "runtime.NumGoroutine") = false)
    (hN:fn.ntmps=N) (hrs:fn.results.toList=rs) (hk:objs.length=k) (hl:args.length≤N) (h:W P N k c (retR P k rs Post) ⟨fun k=>args.getD k .undef,objs⟩):HoldsR P f args objs Post:=by
  subst hN;subst hrs;subst hk
  exact HoldsR.of_body hf hb hname hl h
def callKR (P:Program) (g:FuncId) (args:List AV) (dst:Option Tmp) (K:St→Prop) (σ:St):Prop:=callWR P g args σ fun v σ'=>K (σ'.put dst v)
def callO (P:Program) (o:Oper) (K:St→Prop) (σ:St):Prop :=
  o.guard=none ∧
  match o.op with
  | .call { callee:=.value f,args,.. } =>
    match ev σ f with
    | .fn g caps=>callKR P g (args.toList.map (ev σ)++caps) o.dst K σ
    | _=>False
  | _=>False
theorem callO_sound {os:List Ob} {γ0:Cx} {o:Oper} {K:St→Prop} (h:callO P o K σ) {a:Act} {w:World} (hok:Okay N os γ0 σ a w) (hd:∀ d,o.dst=some d→d<N)
    {Q:Exit→Act→World→Prop} {next:Act→World→Prop} (hn:∀ σ' a' w',K σ'→Okay N os γ0 σ' a' w'→next a' w'):o.wp P a w next Q:=by
  obtain ⟨hdf,hsz,γ,rfl,ha,hs,hf⟩:=hok
  have hd':∀ d,o.dst=some d→d<a.tmps.size:=fun d h=>by rw[hsz];exact hd d h
  obtain ⟨_,h⟩:=h
  split at h
  · rename_i f args ats hop
    split at h
    · rename_i g caps he
      have hfr:=ev_rel hs ha f
      rw[he] at hfr
      obtain ⟨cvs,hcv,hcs,hcr⟩:=hfr.fn_inv
      have hargs:∀ (j:Nat) d,(args.toList.map (ev σ)++caps)[j]?=some d→RelV σ.objs γ.w γ.Z γ.blk d (((args.map a.eval)++cvs).getD j Go.undef):=by
        intro j d hj
        simp only[Array.getD_eq_getD_getElem?]
        rcases Nat.lt_or_ge j args.size with hlt | hge
        · rw[List.getElem?_append_left (by simpa using hlt)] at hj
          rw[Array.getElem?_append_left (by simpa using hlt)]
          simp only[List.getElem?_map,Array.getElem?_toList,Array.getElem?_map] at hj ⊢
          cases hx:args[j]? with
          | none=>simp[hx] at hj
          | some y=>simp[hx] at hj ⊢;subst hj;exact ev_rel hs ha y
        · rw[List.getElem?_append_right (by simpa using hge)] at hj
          rw[Array.getElem?_append_right (by simpa using hge)]
          simp only[List.length_map,Array.length_toList,Array.size_map] at hj ⊢
          have:=hcr _ d hj
          simpa [Array.getD_eq_getD_getElem?] using this
      unfold callKR at h
      have hcall:=call_soundR hs (argv:=(args.map a.eval)++cvs) (by simp[hcs]) hargs h
      obtain ⟨sel,snap,cargs,cobjs,Post,⟨⟨fn,hfn,hname,hbody⟩,_⟩,_⟩:=h
      unfold Oper.wp
      have hr:(execOp a.eval o).run P γ.w=.ok (.enter g ((args.map a.eval)++cvs)) γ.w:=by
        have hn1 : ¬ fn.name = "runtime.NumGoroutine" := by simpa using hname
        have hn2:¬ fn.body=none:=by intro e;rw[e] at hbody;simp at hbody
        simp[execOp,hop,resolve,hcv,Deferred.ofValue,invoke,callFunc,hfn,hn1,hn2]
      rw[hr]
      show Calls P g _ _ _
      refine hcall.mono ?_
      rintro e w' ⟨cv,v,σ',γ',rfl,rfl,ht',hs',hf',hv,hK,henv⟩
      refine hn _ _ _ hK ⟨by rw[put_defers];exact hdf,by rw[put_size];exact hsz,{ γ' with tmps:=(a.put o.dst cv).tmps },rfl,rfl,put_sim hs' (by rw[ht',ha]) hd' hv,?_⟩
      rw[objs_put]
      exact (hf.trans hf').put _
    · exact h.elim
  · exact h.elim
end Go.Am
namespace Go.Am
variable {P:Program} {N n0:Nat} {σ:St} {Q:Exit→St→Prop}
def opsLQ (P:Program) (ops:Array Oper) (qs:List Nat):Nat→List Oper→(St→Prop)→St→Prop
  | _,[],K,σ=>K σ
  | i,o::r,K,σ=>stepD P ops (qs.contains i) o (opsLQ P ops qs (i+1) r K) σ
theorem opsLQ_nil {ops:Array Oper} {qs:List Nat} {i:Nat} {K:St→Prop}:opsLQ P ops qs i [] K σ=K σ:=by simp only[opsLQ]
theorem opsLQ_cons {ops:Array Oper} {qs:List Nat} {i:Nat} {o:Oper} {r:List Oper} {K:St→Prop}:opsLQ P ops qs i (o::r) K σ=stepD P ops (qs.contains i) o (opsLQ P ops qs (i+1) r K) σ:=by simp only[opsLQ]
theorem planW_seqQ {ops:Array Oper} {qs:List Nat} {K:St→Prop}:∀ (l:List Oper) (i:Nat) (σ:St),ops.toList.drop i=l→opsLQ P ops qs i l K σ→planW P ops qs (seqP (List.range' i l.length)) K σ
  | [],i,σ,_,h=>h
  | o::r,i,σ,hl,h=>by
    have hi:ops[i]?=some o:=by
      have:(ops.toList.drop i)[0]?=some o:=by rw[hl];rfl
      simpa using this
    have hr:ops.toList.drop (i+1)=r:=by
      have:=congrArg List.tail hl
      simpa [List.tail_drop] using this
    rw[List.length_cons,List.range'_succ]
    show stepAt P ops qs i (planW P ops qs (seqP (List.range' (i+1) r.length)) K) σ
    unfold stepAt
    simp only[hi]
    have hm:∀ s,opsLQ P ops qs (i+1) r K s→planW P ops qs (seqP (List.range' (i+1) r.length)) K s:=fun s hs=>planW_seqQ r (i+1) s hr hs
    exact stepD_mono hm h
def inTextQ (ops:Array Oper) (qs:List Nat):Bool:=(seqP (List.range ops.size)).ok ops qs ops.size (Array.replicate ops.size false)
theorem W_draw_q {id:Nat} {ops:Array Oper} {y:Code} (qs:List Nat) (hm:P.follows .mixedOrders=true) (hd:dstOK N ops=true) (ht:inTextQ ops qs=true) (h:∀ K:St→Prop,(∀ s,W P N n0 y Q s→K s)→opsLQ P ops qs 0 ops.toList K σ) :
    W P N n0 (.seq (.region id ops true) y) Q σ :=
  W_draw_k qs _ hm hd ht fun K hK=>by
    have:=planW_seqQ (P:=P) (ops:=ops) (qs:=qs) ops.toList 0 σ rfl (h K hK)
    rw[List.range_eq_range']
    simpa using this
theorem W_draw_qe {id:Nat} {ops:Array Oper} (qs:List Nat) (hm:P.follows .mixedOrders=true) (hd:dstOK N ops=true) (ht:inTextQ ops qs=true) (h:∀ K:St→Prop,(∀ s,Q .normal s→K s)→opsLQ P ops qs 0 ops.toList K σ) :
    W P N n0 (.region id ops true) Q σ :=
  W_draw qs _ hm hd ht (by
    have:=planW_seqQ (P:=P) (ops:=ops) (qs:=qs) ops.toList 0 σ rfl (h _ (fun _ h=>h))
    rw[List.range_eq_range']
    simpa using this)
theorem callQ_pure {f:FuncId} {args:List AV} {dst:Option Tmp} {K:St→Prop} {res:AV} (h:Holds P f args [] res []) (ha:noRefL args=true) (hr:noRef res=true) (hK:K (σ.put dst res)):callQ P f args dst K σ :=
  ⟨res,h,ha,hr,hK⟩
end Go.Am
namespace Go.Am
variable {P:Program} {N n0:Nat} {σ:St} {Q:Exit→St→Prop}
theorem Sim.revar {σ:St} {γ:Cx} (h:Sim σ γ) {id:Nat} {cells cells':List AV} (ho:σ.objs[id]?=some (.var cells)) (hl:cells'.length=cells.length)
    (hc:∀ (c:Nat) v v',cells[c]?=some v→cells'[c]?=some v'→∀ cv,RelV σ.objs γ.w γ.Z γ.blk v cv→RelV σ.objs γ.w γ.Z γ.blk v' cv):Sim ⟨σ.env,σ.objs.set id (.var cells')⟩ γ:=by
  obtain ⟨b,cap,cur,t,h1,h2,h3,h4⟩:=h.obs id _ ho
  have:=h.write (ob':=.var cells') ho (by simp) (by simp[Ob.like,hl]) h1 (w':=γ.w) h2 (fun _ _=>rfl) rfl ⟨rfl,by rw[h3,hl],fun c v hv=>?_⟩
  · exact this
  · have hlt:c<cells.length:=by rw[← hl];exact (List.getElem?_eq_some_iff.1 hv).1
    exact hc c _ v (List.getElem?_eq_getElem hlt) hv _ (h4 c _ (List.getElem?_eq_getElem hlt))
theorem Fr.revar (os:List Ob) (γ:Cx) {id:Nat} {cells cells':List AV} (ho:os[id]?=some (.var cells)) (hl:cells'.length=cells.length):Fr os γ (os.set id (.var cells')) γ where
  eos:=rfl
  tape:=rfl
  output:=rfl
  size:=Nat.le_refl _
  keep:=fun _ _ _=>rfl
  z0:=fun _ h=>h
  z1:=fun _ h=>.inl h
  own:=by
    rintro b ⟨i,o,c,⟨x,hx,hgx⟩,hb⟩
    rw[List.getElem?_set] at hx
    split at hx
    · rename_i e;subst e;exact .inl ⟨id,o,c,⟨_,ho,by simp⟩,hb⟩
    · exact .inl ⟨i,o,c,⟨x,hx,hgx⟩,hb⟩
  len:=by simp
  old:=by
    rintro i hi ⟨x,hx,hgx⟩
    have hx0:=hx
    rw[List.getElem?_set] at hx
    split at hx
    · rename_i e;subst e
      exact⟨rfl,.var cells,.var cells',ho,by rw[List.getElem?_set];simp[hi],by simp[Ob.like,hl]⟩
    · exact⟨rfl,x,x,hx,hx0,Ob.like_refl hgx⟩
theorem Turns.nilC (id c sz:Nat) {cells:List AV} (ho:σ.objs[id]?=some (.var cells)) (hc:cells[c]?=some (.lit (.slice none 0 0))) (h0:0<sz) :
    Turns n0 σ ⟨σ.env,(σ.objs++[Ob.arr sz []]).set id (.var (cells.set c (.ref σ.objs.length sz 0 0)))⟩:=by
  intro os γ0 γ _ hs hf
  have hp:=hs.pushNil h0
  have hid:id<σ.objs.length:=(List.getElem?_eq_some_iff.1 ho).1
  have ho':(σ.objs++[Ob.arr sz []])[id]?=some (.var cells):=by rw[List.getElem?_append_left hid];exact ho
  refine⟨{ γ with blk:=updB γ.blk σ.objs.length none },rfl,rfl,?_,(hf.trans (Fr.pushNil _ _ _)).trans (Fr.revar _ _ ho' (cells':=cells.set c (.ref σ.objs.length sz 0 0)) (by simp))⟩
  refine hp.revar ho' (cells':=cells.set c (.ref σ.objs.length sz 0 0)) (by simp) (fun k v v' hv hv' cv hr=>?_)
  rw[List.getElem?_set] at hv'
  split at hv'
  · rename_i e;subst e
    split at hv'
    · simp only[Option.some.injEq] at hv'
      subst hv'
      have hk:cells[c]?=some v:=hv
      rw[hc] at hk
      simp only[Option.some.injEq] at hk
      subst hk
      rw[hr.lit_inv]
      exact .refNil _ _ (List.getElem?_concat_length ..) (by simp[updB])
    · simp at hv'
  · have hk:cells[k]?=some v':=hv'
    have hk2:cells[k]?=some v:=hv
    rw[hk2] at hk
    simp only[Option.some.injEq] at hk
    subst hk
    exact hr
theorem Turns.frzV (a id c sz:Nat) {cells:List AV} {rows:List (List AV)} (ho:σ.objs[id]?=some (.var cells)) (ha:σ.objs[a]?=some (.arr sz rows)) (hc:cells[c]?=some (.ref a sz 0 rows.length))
    (hw:∀ row∈rows,row.length=sz) (hfz:∀ row∈rows,∀ v∈row,(∃ x,v=.lit x)∨∃ s r,v=.tree s r):Turns n0 σ ⟨σ.env,(σ.objs.set a .gone).set id (.var (cells.set c (.tree sz rows)))⟩:=by
  intro os γ0 γ _ hs hf
  have hai:a≠id:=by intro e;subst e;rw[ho] at ha;simp at ha
  have hidl:id<σ.objs.length:=(List.getElem?_eq_some_iff.1 ho).1
  have hal:a<σ.objs.length:=(List.getElem?_eq_some_iff.1 ha).1
  let γ':Cx:={ γ with Z:=fun b=>γ.Z b∨∃ o cap,γ.blk a=some (b,o,cap) }
  let os2:=(σ.objs.set a .gone).set id (.var (cells.set c (.tree sz rows)))
  have hget:∀ i,os2[i]?=if i=id then some (.var (cells.set c (.tree sz rows))) else if i=a then some .gone else σ.objs[i]?:=by
    intro i
    show ((σ.objs.set a .gone).set id _)[i]?=_
    rw[List.getElem?_set,List.getElem?_set]
    by_cases h1:i=id
    · subst h1;simp[hidl]
    · by_cases h2:i=a
      · subst h2;simp[Ne.symm h1,h1,hal]
      · simp[Ne.symm h1,Ne.symm h2,h1,h2]
  have hR:∀ v cv,RelV σ.objs γ.w γ.Z γ.blk v cv→RelV os2 γ'.w γ'.Z γ'.blk v cv:=fun v cv hv =>
    hv.mono (fun b hb=>⟨.inl hb,rfl⟩) (fun i o hi=>by
      rw[hget]
      by_cases h1:i=id
      · subst h1
        rw[ho] at hi
        simp only[Option.some.injEq] at hi
        subst hi
        right
        exact⟨rfl,_,by rw[if_pos rfl],by simp[Ob.like]⟩
      · rw[if_neg h1]
        by_cases h2:i=a
        · left;rw[if_pos h2]
        · rw[if_neg h2]
          by_cases hg:o=.gone
          · subst hg;exact .inl hi
          · exact .inr ⟨rfl,o,hi,Ob.like_refl hg⟩)
  have hlive:∀ i,Live os2 i→Live σ.objs i∧i≠a:=by
    rintro i ⟨o,hi,hg⟩
    rw[hget] at hi
    split at hi
    · rename_i h1;subst h1;exact⟨⟨_,ho,by simp⟩,Ne.symm hai⟩
    · split at hi
      · simp at hi;exact absurd hi.symm hg
      · rename_i h2;exact⟨⟨o,hi,hg⟩,h2⟩
  have hav:Live σ.objs a:=⟨_,ha,by simp⟩
  refine⟨γ',rfl,rfl,⟨fun k=>hR _ _ (hs.slots k),?_,fun i j b o c o' c' hi hj=>hs.inj i j b o c o' c' (hlive i hi).1 (hlive j hj).1,?_,?_⟩,?_⟩
  · intro i o hi
    have hi':os2[i]?=some o:=hi
    rw[hget] at hi'
    split at hi'
    · rename_i h1
      subst h1
      simp only[Option.some.injEq] at hi'
      subst hi'
      obtain ⟨b,cap,cur,t,h1,h2,h3,h4⟩:=hs.obs _ _ ho
      refine⟨b,cap,cur,t,h1,h2,by simpa using h3,fun k v hv=>?_⟩
      rw[List.getElem?_set] at hv
      split at hv
      · rename_i e
        subst e
        split at hv
        · simp only[Option.some.injEq] at hv
          subst hv
          have hfr:Frz σ (fun x=>x≠a) (.tree sz rows) (.ref a sz 0 rows.length):=Frz.flat ha hw rfl (by simp) hfz
          exact .frz _ _ (hfr.treeR hs (γc:=γ') (fun b hb=>.inl hb) rfl (fun x b o cap hid _ hb=>.inr ⟨o,cap,by rw[show a=x by simpa using (Decidable.not_not.1 hid).symm];exact hb⟩) _ (h4 c _ hc))
        · simp at hv
      · exact hR _ _ (h4 k v hv)
    · split at hi'
      · simp only[Option.some.injEq] at hi';subst hi';trivial
      · by_cases hg:o=.gone
        · subst hg;trivial
        · exact (hs.obs i o hi').mono hR rfl (fun _ _ _ _=>rfl)
  · rintro b ⟨i,o,c',hi,hb⟩ (hz | ⟨o',cap,hb'⟩)
    · exact hs.nz b ⟨i,o,c',(hlive i hi).1,hb⟩ hz
    · exact (hlive i hi).2 (hs.inj i a b o c' o' cap (hlive i hi).1 hav hb hb')
  · rintro b (hz | ⟨o,cap,hb⟩)
    · exact hs.zlt b hz
    · exact hs.blt hav hb
  · refine⟨hf.eos,hf.tape,hf.output,hf.size,hf.keep,fun b hb=>.inl (hf.z0 b hb),?_,?_,by show os.length≤os2.length;simp[os2];exact hf.len,?_⟩
    · rintro b (hz | ⟨o,cap,hb⟩)
      · exact hf.z1 b hz
      · exact .inr (hf.own b ⟨a,o,cap,hav,hb⟩)
    · rintro b ⟨i,o,c',hi,hb⟩
      exact hf.own b ⟨i,o,c',(hlive i hi).1,hb⟩
    · intro i hi hl
      obtain ⟨h1,x,x',hx,hx',hk⟩:=hf.old i hi (hlive i hl).1
      have hia:=(hlive i hl).2
      have hl':Live os2 i:=hl
      obtain ⟨o,ho2,hg2⟩:=hl'
      refine⟨h1,x,o,hx,ho2,?_⟩
      rw[hget] at ho2
      split at ho2
      · rename_i e
        subst e
        rw[ho] at hx'
        simp only[Option.some.injEq] at hx' ho2
        subst hx';subst ho2
        refine Ob.like_trans hk (by simp[Ob.like])
      · rw[hx'] at ho2
        simp only[Option.some.injEq] at ho2
        subst ho2;exact hk
end Go.Am

