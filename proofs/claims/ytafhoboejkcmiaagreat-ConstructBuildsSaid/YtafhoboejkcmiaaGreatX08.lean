import Derived.Test.YtafhoboejkcmiaaGreatX07
import Derived.Test.YtafhoboejkcmiaaGreatX06
import Derived.Laws.StructEq
set_option linter.unusedVariables false
set_option linter.unusedSimpArgs false
set_option linter.unnecessarySimpa false
set_option linter.unusedSectionVars false
set_option maxHeartbeats 64000000
set_option maxRecDepth 20000
namespace Go.Am
variable {P:Program} {N n0:Nat} {σ:St} {Q:Exit→St→Prop}
theorem Sim.revar {σ:St} {γ:Cx} (h:Sim σ γ) {id:Nat} {cells cells':List AV} (ho:σ.objs[id]?=some (.var cells)) (hl:cells'.length=cells.length)
    (hc:∀ (c:Nat) v v',cells[c]?=some v→cells'[c]?=some v'→∀ cv,RelV σ.objs γ.w γ.Z γ.blk v cv→RelV σ.objs γ.w γ.Z γ.blk v' cv):Sim ⟨σ.env,σ.objs.set id (.var cells')⟩ γ:=by
  obtain ⟨b,cap,cur,t,h1,h2,h3,h4⟩:=h.obs id _ ho
  have:=h.write (ob':=.var cells') ho (by simp) (by simp[Ob.like,hl]) h1 (w':=γ.w) h2 (fun _ _=>rfl) rfl ⟨rfl,by rw[h3,hl],fun c v hv=>?_⟩
  · exact this
  · have hlt:c<cells.length:=by rw[← hl];exact (List.getElem?_eq_some_iff.1 hv).1
    exact hc c _ v (List.getElem?_eq_getElem hlt) hv _ (h4 c _ (List.getElem?_eq_getElem hlt))
theorem Fr.revar (os:List Ob) (γ:Cx) {id:Nat} {cells cells':List AV} (ho:os[id]?=some (.var cells)) (hl:cells'.length=cells.length):Fr os γ (os.set id (.var cells')) γ where
  eos:=rfl
  tape:=rfl
  output:=rfl
  size:=Nat.le_refl _
  keep:=fun _ _ _=>rfl
  z0:=fun _ h=>h
  z1:=fun _ h=>.inl h
  own:=by
    rintro b ⟨i,o,c,⟨x,hx,hgx⟩,hb⟩
    rw[List.getElem?_set] at hx
    split at hx
    · rename_i e;subst e;exact .inl ⟨id,o,c,⟨_,ho,by simp⟩,hb⟩
    · exact .inl ⟨i,o,c,⟨x,hx,hgx⟩,hb⟩
  len:=by simp
  old:=by
    rintro i hi ⟨x,hx,hgx⟩
    have hx0:=hx
    rw[List.getElem?_set] at hx
    split at hx
    · rename_i e;subst e
      exact⟨rfl,.var cells,.var cells',ho,by rw[List.getElem?_set];simp[hi],by simp[Ob.like,hl]⟩
    · exact⟨rfl,x,x,hx,hx0,Ob.like_refl hgx⟩
theorem Turns.nilC (id c sz:Nat) {cells:List AV} (ho:σ.objs[id]?=some (.var cells)) (hc:cells[c]?=some (.lit (.slice none 0 0))) (h0:0<sz) :
    Turns n0 σ ⟨σ.env,(σ.objs++[Ob.arr sz []]).set id (.var (cells.set c (.ref σ.objs.length sz 0 0)))⟩:=by
  intro os γ0 γ _ hs hf
  have hp:=hs.pushNil h0
  have hid:id<σ.objs.length:=(List.getElem?_eq_some_iff.1 ho).1
  have ho':(σ.objs++[Ob.arr sz []])[id]?=some (.var cells):=by rw[List.getElem?_append_left hid];exact ho
  refine⟨{ γ with blk:=updB γ.blk σ.objs.length none },rfl,rfl,?_,(hf.trans (Fr.pushNil _ _ _)).trans (Fr.revar _ _ ho' (cells':=cells.set c (.ref σ.objs.length sz 0 0)) (by simp))⟩
  refine hp.revar ho' (cells':=cells.set c (.ref σ.objs.length sz 0 0)) (by simp) (fun k v v' hv hv' cv hr=>?_)
  rw[List.getElem?_set] at hv'
  split at hv'
  · rename_i e;subst e
    split at hv'
    · simp only[Option.some.injEq] at hv'
      subst hv'
      have hk:cells[c]?=some v:=hv
      rw[hc] at hk
      simp only[Option.some.injEq] at hk
      subst hk
      rw[hr.lit_inv]
      exact .refNil _ _ (List.getElem?_concat_length ..) (by simp[updB])
    · simp at hv'
  · have hk:cells[k]?=some v':=hv'
    have hk2:cells[k]?=some v:=hv
    rw[hk2] at hk
    simp only[Option.some.injEq] at hk
    subst hk
    exact hr
theorem Turns.frzV (a id c sz:Nat) {cells:List AV} {rows:List (List AV)} (ho:σ.objs[id]?=some (.var cells)) (ha:σ.objs[a]?=some (.arr sz rows)) (hc:cells[c]?=some (.ref a sz 0 rows.length))
    (hw:∀ row∈rows,row.length=sz) (hfz:∀ row∈rows,∀ v∈row,(∃ x,v=.lit x)∨∃ s r,v=.tree s r):Turns n0 σ ⟨σ.env,(σ.objs.set a .gone).set id (.var (cells.set c (.tree sz rows)))⟩:=by
  intro os γ0 γ _ hs hf
  have hai:a≠id:=by intro e;subst e;rw[ho] at ha;simp at ha
  have hidl:id<σ.objs.length:=(List.getElem?_eq_some_iff.1 ho).1
  have hal:a<σ.objs.length:=(List.getElem?_eq_some_iff.1 ha).1
  let γ':Cx:={ γ with Z:=fun b=>γ.Z b∨∃ o cap,γ.blk a=some (b,o,cap) }
  let os2:=(σ.objs.set a .gone).set id (.var (cells.set c (.tree sz rows)))
  have hget:∀ i,os2[i]?=if i=id then some (.var (cells.set c (.tree sz rows))) else if i=a then some .gone else σ.objs[i]?:=by
    intro i
    show ((σ.objs.set a .gone).set id _)[i]?=_
    rw[List.getElem?_set,List.getElem?_set]
    by_cases h1:i=id
    · subst h1;simp[hidl]
    · by_cases h2:i=a
      · subst h2;simp[Ne.symm h1,h1,hal]
      · simp[Ne.symm h1,Ne.symm h2,h1,h2]
  have hR:∀ v cv,RelV σ.objs γ.w γ.Z γ.blk v cv→RelV os2 γ'.w γ'.Z γ'.blk v cv:=fun v cv hv =>
    hv.mono (fun b hb=>⟨.inl hb,rfl⟩) (fun i o hi=>by
      rw[hget]
      by_cases h1:i=id
      · subst h1
        rw[ho] at hi
        simp only[Option.some.injEq] at hi
        subst hi
        right
        exact⟨rfl,_,by rw[if_pos rfl],by simp[Ob.like]⟩
      · rw[if_neg h1]
        by_cases h2:i=a
        · left;rw[if_pos h2]
        · rw[if_neg h2]
          by_cases hg:o=.gone
          · subst hg;exact .inl hi
          · exact .inr ⟨rfl,o,hi,Ob.like_refl hg⟩)
  have hlive:∀ i,Live os2 i→Live σ.objs i∧i≠a:=by
    rintro i ⟨o,hi,hg⟩
    rw[hget] at hi
    split at hi
    · rename_i h1;subst h1;exact⟨⟨_,ho,by simp⟩,Ne.symm hai⟩
    · split at hi
      · simp at hi;exact absurd hi.symm hg
      · rename_i h2;exact⟨⟨o,hi,hg⟩,h2⟩
  have hav:Live σ.objs a:=⟨_,ha,by simp⟩
  refine⟨γ',rfl,rfl,⟨fun k=>hR _ _ (hs.slots k),?_,fun i j b o c o' c' hi hj=>hs.inj i j b o c o' c' (hlive i hi).1 (hlive j hj).1,?_,?_⟩,?_⟩
  · intro i o hi
    have hi':os2[i]?=some o:=hi
    rw[hget] at hi'
    split at hi'
    · rename_i h1
      subst h1
      simp only[Option.some.injEq] at hi'
      subst hi'
      obtain ⟨b,cap,cur,t,h1,h2,h3,h4⟩:=hs.obs _ _ ho
      refine⟨b,cap,cur,t,h1,h2,by simpa using h3,fun k v hv=>?_⟩
      rw[List.getElem?_set] at hv
      split at hv
      · rename_i e
        subst e
        split at hv
        · simp only[Option.some.injEq] at hv
          subst hv
          have hfr:Frz σ (fun x=>x≠a) (.tree sz rows) (.ref a sz 0 rows.length):=Frz.flat ha hw rfl (by simp) hfz
          exact .frz _ _ (hfr.treeR hs (γc:=γ') (fun b hb=>.inl hb) rfl (fun x b o cap hid _ hb=>.inr ⟨o,cap,by rw[show a=x by simpa using (Decidable.not_not.1 hid).symm];exact hb⟩) _ (h4 c _ hc))
        · simp at hv
      · exact hR _ _ (h4 k v hv)
    · split at hi'
      · simp only[Option.some.injEq] at hi';subst hi';trivial
      · by_cases hg:o=.gone
        · subst hg;trivial
        · exact (hs.obs i o hi').mono hR rfl (fun _ _ _ _=>rfl)
  · rintro b ⟨i,o,c',hi,hb⟩ (hz | ⟨o',cap,hb'⟩)
    · exact hs.nz b ⟨i,o,c',(hlive i hi).1,hb⟩ hz
    · exact (hlive i hi).2 (hs.inj i a b o c' o' cap (hlive i hi).1 hav hb hb')
  · rintro b (hz | ⟨o,cap,hb⟩)
    · exact hs.zlt b hz
    · exact hs.blt hav hb
  · refine⟨hf.eos,hf.tape,hf.output,hf.size,hf.keep,fun b hb=>.inl (hf.z0 b hb),?_,?_,by show os.length≤os2.length;simp[os2];exact hf.len,?_⟩
    · rintro b (hz | ⟨o,cap,hb⟩)
      · exact hf.z1 b hz
      · exact .inr (hf.own b ⟨a,o,cap,hav,hb⟩)
    · rintro b ⟨i,o,c',hi,hb⟩
      exact hf.own b ⟨i,o,c',(hlive i hi).1,hb⟩
    · intro i hi hl
      obtain ⟨h1,x,x',hx,hx',hk⟩:=hf.old i hi (hlive i hl).1
      have hia:=(hlive i hl).2
      have hl':Live os2 i:=hl
      obtain ⟨o,ho2,hg2⟩:=hl'
      refine⟨h1,x,o,hx,ho2,?_⟩
      rw[hget] at ho2
      split at ho2
      · rename_i e
        subst e
        rw[ho] at hx'
        simp only[Option.some.injEq] at hx' ho2
        subst hx';subst ho2
        refine Ob.like_trans hk (by simp[Ob.like])
      · rw[hx'] at ho2
        simp only[Option.some.injEq] at ho2
        subst ho2;exact hk
end Go.Am
namespace Go.Am
variable {P:Program}
def eqTile (P:Program):List Field→Nat→Nat→Bool
  | [],o,n=>o == n
  | f::fs,o,n=>f.offset == o && eqTile P fs (o+P.cellsOf f.type) n
def eqOK (P:Program):Nat→TypeId→Bool
  | 0,_=>false
  | d+1,t =>
    match P.underlying t with
    | some (.int .i64)=>P.cellsOf t == 1
    | some (.struct fs) => (P.info? t).isSome && !P.stoodInHeld t && eqTile P fs.toList 0 (P.cellsOf t) && fs.toList.all fun f => f.name != "_" && eqOK P d f.type
    | _=>false
def valT (P:Program) (t:TypeId) (xs:List Int):Value :=
  match P.underlying t with
  | some (.struct _)=>.agg (xs.map (Value.int .i64)).toArray
  | _=>.int .i64 (xs.getD 0 0)
theorem drop_split {as bs:List Int} {o c:Nat} (h:as.length=bs.length):as.drop o=bs.drop o↔(as.drop o).take c=(bs.drop o).take c∧as.drop (o+c)=bs.drop (o+c):=by
  constructor
  · intro e
    refine⟨by rw[e],?_⟩
    rw[← List.drop_drop,← List.drop_drop,e]
  · rintro ⟨e1,e2⟩
    rw[← List.drop_drop,← List.drop_drop] at e2
    rw[← List.take_append_drop c (as.drop o),← List.take_append_drop c (bs.drop o),e1,e2]
theorem run_partT (w:World) {d:Nat} {t:TypeId} (h:eqOK P d t=true) {as:List Int} {o:Nat} (ho:o+P.cellsOf t≤as.length) :
    (part t (as.map (Value.int .i64)).toArray o).run P w=.ok (valT P t ((as.drop o).take (P.cellsOf t))) w:=by
  cases d with
  | zero=>simp[eqOK] at h
  | succ d =>
    unfold eqOK at h
    cases hu:P.underlying t with
    | none=>simp[hu] at h
    | some k =>
      rw[hu] at h
      cases k<;>try (simp at h;done)
      case int q =>
        cases q<;>try (simp at h;done)
        have hc:P.cellsOf t=1:=by simpa using h
        rw[hc] at ho
        have hx:((as.map (Value.int .i64)).toArray)[o]?=some (.int .i64 (as.getD o 0)):=by
          have:o<as.length:=by omega
          simp[this]
        simp only[part,isAgg,Sem.run_bind,run_underlying hu,Result.andThen_ok,Sem.run_pure,Bool.false_eq_true,if_false,Sem.run_ite,hx]
        have:o<as.length:=by omega
        simp[valT,hu,hc,this]
      case struct fs =>
        simp only[Bool.and_eq_true] at h
        obtain ⟨i,hi⟩:=Option.isSome_iff_exists.1 h.1.1.1
        have hs:∀ w,(sizeOf t).run P w=.ok (P.cellsOf t) w:=fun w=>by
          simp[sizeOf,typeInfo,Program.cellsOf,hi,run_program]
        simp only[part,isAgg,Sem.run_bind,run_underlying hu,Result.andThen_ok,Sem.run_pure,if_true,Sem.run_ite,hs]
        simp only[valT,hu]
        congr 2
        simp[List.map_take,List.map_drop]
theorem run_eqFieldsT {D d:Nat} (ih:∀ t,eqOK P d t=true→∀ (w:World) (as bs:List Int),as.length=P.cellsOf t→bs.length=P.cellsOf t→(Op.equalIn (D+d) t (valT P t as) (valT P t bs)).run P w=.ok (decide (as=bs)) w) {as bs:List Int} (hl:as.length=bs.length) :
    ∀ (fs : List Field) (o : Nat) (w : World), eqTile P fs o as.length = true → (fs.all fun f => f.name != "_" && eqOK P d f.type) = true →
      o+(fs.map fun f=>P.cellsOf f.type).sum=as.length→(Op.eqFields (D+d) (as.map (Value.int .i64)).toArray (bs.map (Value.int .i64)).toArray fs).run P w=.ok (decide (as.drop o=bs.drop o)) w
  | [],o,w,ht,_,hs=>by
    have:o=as.length:=by simpa [eqTile] using ht
    subst this
    have:bs.drop as.length=[]:=List.drop_eq_nil_of_le (by omega)
    simp[Op.eqFields,this]
  | f::fs,o,w,ht,ha,hs=>by
    simp only[eqTile,Bool.and_eq_true,beq_iff_eq] at ht
    obtain ⟨rfl,ht⟩:=ht
    simp only[List.all_cons,Bool.and_eq_true,bne_iff_ne] at ha
    simp only[List.map_cons,List.sum_cons] at hs
    have h1:=run_partT (as:=as) w ha.1.2 (o:=f.offset) (by omega)
    have h2:=run_partT (as:=bs) w ha.1.2 (o:=f.offset) (by omega)
    have h3:=ih f.type ha.1.2 w ((as.drop f.offset).take (P.cellsOf f.type)) ((bs.drop f.offset).take (P.cellsOf f.type)) (by simp;omega) (by simp;omega)
    have h4:=run_eqFieldsT ih hl fs (f.offset+P.cellsOf f.type) w ht ha.2 (by omega)
    simp only[Op.eqFields]
    rw[if_pos ha.1.1]
    simp only[Sem.run_bind,h1,h2,h3,Result.andThen_ok,Sem.run_ite,Sem.run_pure,h4]
    by_cases he:(as.drop f.offset).take (P.cellsOf f.type)=(bs.drop f.offset).take (P.cellsOf f.type)
    · rw[decide_eq_true he]
      simp only[Bool.not_true,Bool.false_eq_true,if_false]
      congr 1
      rw[decide_eq_decide,drop_split (o:=f.offset) (c:=P.cellsOf f.type) hl]
      simp[he]
    · rw[decide_eq_false he]
      simp only[Bool.not_false,if_true]
      congr 1
      rw[eq_comm,decide_eq_false_iff_not,drop_split (o:=f.offset) (c:=P.cellsOf f.type) hl]
      exact fun h=>he h.1
theorem tile_sum:∀ (fs:List Field) (o n:Nat),eqTile P fs o n=true→o+(fs.map fun f=>P.cellsOf f.type).sum=n
  | [],o,n,h=>by simpa [eqTile] using h
  | f::fs,o,n,h=>by
    simp only[eqTile,Bool.and_eq_true,beq_iff_eq] at h
    have:=tile_sum fs _ n h.2
    simp only[List.map_cons,List.sum_cons];omega
theorem eqT_main (D:Nat):∀ (d:Nat) (t:TypeId),eqOK P d t=true→∀ (w:World) (as bs:List Int),as.length=P.cellsOf t→bs.length=P.cellsOf t→(Op.equalIn (D+d) t (valT P t as) (valT P t bs)).run P w=.ok (decide (as=bs)) w
  | 0,t,h=>by simp[eqOK] at h
  | d+1,t,h=>by
    intro w as bs ha hb
    unfold eqOK at h
    cases hu:P.underlying t with
    | none=>simp[hu] at h
    | some k =>
      rw[hu] at h
      cases k<;>try (simp at h;done)
      case int q =>
        cases q<;>try (simp at h;done)
        have hc:P.cellsOf t=1:=by simpa using h
        rw[hc] at ha hb
        match as,bs,ha,hb with
        | [a],[b],_,_ =>
          simp only[valT,hu,List.getD_cons_zero]
          rw[show D+(d+1)=(D+d)+1 from rfl,run_equalIn_int w (D+d) t .i64 .i64 a b hu]
          congr 1
          rw[Bool.eq_iff_iff];simp
      case struct fs =>
        simp only[Bool.and_eq_true,Bool.not_eq_true'] at h
        have hf:P.fieldsOf t=fs:=by simp[Program.fieldsOf,hu]
        simp only[valT,hu]
        rw[show D+(d+1)=(D+d)+1 from rfl,run_equalIn_struct w (D+d) t _ _ (by rw[hf];exact hu) h.1.1.2,hf]
        have:=run_eqFieldsT (D:=D) (eqT_main D d) (as:=as) (bs:=bs) (by omega) fs.toList 0 w (by rw[ha];exact h.1.2) h.2 (by rw[ha];exact tile_sum _ _ _ h.1.2)
        simpa using this
def eqTest (P:Program) (d:Nat) (t:TypeId) (n:Nat):Bool :=
  (match P.underlying t with | some (.struct _)=>true | _=>false) && decide (d≤10000) && eqOK P d t && (P.cellsOf t == n)
theorem EqT.of {t:TypeId} (d:Nat) {n:Nat} (h:eqTest P d t n=true):EqT P t n:=by
  intro w as bs ha hb
  simp only[eqTest,Bool.and_eq_true,decide_eq_true_eq,beq_iff_eq] at h
  obtain ⟨⟨⟨h1,hd⟩,h2⟩,h3⟩:=h
  have:=eqT_main (10000 - d) d t h2 w as bs (by omega) (by omega)
  rw[Nat.sub_add_cancel hd] at this
  cases hu:P.underlying t with
  | none=>rw[hu] at h1;simp at h1
  | some k =>
    cases k<;>rw[hu] at h1<;>try (simp at h1;done)
    simpa only[valT,hu] using this
end Go.Am
namespace Go.Am
variable {P:Program} {N n0:Nat} {σ:St} {Q:Exit→St→Prop}
def isCallO (o:Oper):Bool :=
  match o.op with
  | .call c=>match c.callee with
    | .value _=>true
    | _=>false
  | _=>false
def callsOf (ops:Array Oper):List Nat:=(List.range ops.size).filter fun i=>match ops[i]? with | some o=>isCallO o | none=>false
def opsLA (P:Program) (ops:Array Oper):List Oper→(St→Prop)→St→Prop
  | [],K,σ=>K σ
  | o::r,K,σ=>stepD P ops (isCallO o) o (opsLA P ops r K) σ
theorem opsLA_nil {ops:Array Oper} {K:St→Prop}:opsLA P ops [] K σ=K σ:=by simp only[opsLA]
theorem opsLA_cons {ops:Array Oper} {o:Oper} {r:List Oper} {K:St→Prop}:opsLA P ops (o::r) K σ=stepD P ops (isCallO o) o (opsLA P ops r K) σ:=by simp only[opsLA]
theorem callsOf_contains {ops:Array Oper} {i:Nat} {o:Oper} (h:ops[i]?=some o):(callsOf ops).contains i=isCallO o:=by
  have hi:i<ops.size:=(Array.getElem?_eq_some_iff.1 h).1
  rw[Bool.eq_iff_iff,List.contains_iff_mem]
  simp only[callsOf,List.mem_filter,List.mem_range,hi,true_and,h]
theorem opsLA_opsLQ {ops:Array Oper} {K:St→Prop}:∀ (l:List Oper) (i:Nat) (σ:St),ops.toList.drop i=l→opsLA P ops l K σ→opsLQ P ops (callsOf ops) i l K σ
  | [],i,σ,_,h=>h
  | o::r,i,σ,hl,h=>by
    have hi:ops[i]?=some o:=by
      have:(ops.toList.drop i)[0]?=some o:=by rw[hl];rfl
      simpa using this
    have hr:ops.toList.drop (i+1)=r:=by
      have:=congrArg List.tail hl
      simpa [List.tail_drop] using this
    rw[opsLQ_cons,callsOf_contains hi]
    rw[opsLA_cons] at h
    exact stepD_mono (fun s hs=>opsLA_opsLQ r (i+1) s hr hs) h
def inTextA (ops:Array Oper):Bool:=inTextQ ops (callsOf ops)
theorem W_draw_a {id:Nat} {ops:Array Oper} {y:Code} (hm:P.follows .mixedOrders=true) (hd:dstOK N ops=true) (ht:inTextA ops=true) (h:∀ K:St→Prop,(∀ s,W P N n0 y Q s→K s)→opsLA P ops ops.toList K σ) :
    W P N n0 (.seq (.region id ops true) y) Q σ :=
  W_draw_q (callsOf ops) hm hd ht fun K hK=>opsLA_opsLQ ops.toList 0 σ rfl (h K hK)
theorem W_draw_ae {id:Nat} {ops:Array Oper} (hm:P.follows .mixedOrders=true) (hd:dstOK N ops=true) (ht:inTextA ops=true) (h:∀ K:St→Prop,(∀ s,Q .normal s→K s)→opsLA P ops ops.toList K σ) :
    W P N n0 (.region id ops true) Q σ :=
  W_draw_qe (callsOf ops) hm hd ht fun K hK=>opsLA_opsLQ ops.toList 0 σ rfl (h K hK)
def laterCall:List Oper→Bool
  | []=>false
  | o::r=>isCallO o || laterCall r
def callsB (ops:Array Oper):List Nat:=(List.range ops.size).filter fun i=>match ops[i]? with | some o=>isCallO o && laterCall (ops.toList.drop (i+1)) | none=>false
def opsLB (P:Program) (ops:Array Oper):List Oper→(St→Prop)→St→Prop
  | [],K,σ=>K σ
  | o::r,K,σ=>stepD P ops (isCallO o && laterCall r) o (opsLB P ops r K) σ
theorem opsLB_nil {ops:Array Oper} {K:St→Prop}:opsLB P ops [] K σ=K σ:=by simp only[opsLB]
theorem opsLB_cons {ops:Array Oper} {o:Oper} {r:List Oper} {K:St→Prop}:opsLB P ops (o::r) K σ=stepD P ops (isCallO o && laterCall r) o (opsLB P ops r K) σ:=by simp only[opsLB]
theorem callsB_contains {ops:Array Oper} {i:Nat} {o:Oper} {r:List Oper} (h:ops[i]?=some o) (hr:ops.toList.drop (i+1)=r):(callsB ops).contains i=(isCallO o && laterCall r):=by
  have hi:i<ops.size:=(Array.getElem?_eq_some_iff.1 h).1
  rw[Bool.eq_iff_iff,List.contains_iff_mem]
  simp only[callsB,List.mem_filter,List.mem_range,hi,true_and,h,hr]
theorem opsLB_opsLQ {ops:Array Oper} {K:St→Prop}:∀ (l:List Oper) (i:Nat) (σ:St),ops.toList.drop i=l→opsLB P ops l K σ→opsLQ P ops (callsB ops) i l K σ
  | [],i,σ,_,h=>h
  | o::r,i,σ,hl,h=>by
    have hi:ops[i]?=some o:=by
      have:(ops.toList.drop i)[0]?=some o:=by rw[hl];rfl
      simpa using this
    have hr:ops.toList.drop (i+1)=r:=by
      have:=congrArg List.tail hl
      simpa [List.tail_drop] using this
    rw[opsLQ_cons,callsB_contains hi hr]
    rw[opsLB_cons] at h
    exact stepD_mono (fun s hs=>opsLB_opsLQ r (i+1) s hr hs) h
def inTextB (ops:Array Oper):Bool:=inTextQ ops (callsB ops)
theorem W_draw_b {id:Nat} {ops:Array Oper} {y:Code} (hm:P.follows .mixedOrders=true) (hd:dstOK N ops=true) (ht:inTextB ops=true) (h:∀ K:St→Prop,(∀ s,W P N n0 y Q s→K s)→opsLB P ops ops.toList K σ) :
    W P N n0 (.seq (.region id ops true) y) Q σ :=
  W_draw_q (callsB ops) hm hd ht fun K hK=>opsLB_opsLQ ops.toList 0 σ rfl (h K hK)
theorem W_draw_be {id:Nat} {ops:Array Oper} (hm:P.follows .mixedOrders=true) (hd:dstOK N ops=true) (ht:inTextB ops=true) (h:∀ K:St→Prop,(∀ s,Q .normal s→K s)→opsLB P ops ops.toList K σ) :
    W P N n0 (.region id ops true) Q σ :=
  W_draw_qe (callsB ops) hm hd ht fun K hK=>opsLB_opsLQ ops.toList 0 σ rfl (h K hK)
theorem Holds.empty {f:FuncId} {sz:Nat} {pre post:List AV} {objs objs':List Ob} {res:AV} (h:∀ a cap,Holds P f (pre++.lit (.slice a 0 cap)::post) objs res objs'):Holds P f (pre++.tree sz []::post) objs res objs':=by
  refine⟨(h none 0).1,fun γ hsz hs=>?_⟩
  have hslot:=hs.slots pre.length
  have he:(pre++.tree sz []::post).getD pre.length .undef=.tree sz []:=by simp
  rw[show (⟨fun k=>(pre++AV.tree sz []::post).getD k .undef,objs⟩:St).env pre.length=.tree sz [] from he] at hslot
  obtain ⟨a,cap,hcv⟩ :∃a cap,γ.tmps.getD pre.length Go.undef=.slice a 0 cap:=by
    generalize γ.tmps.getD pre.length Go.undef=cv at hslot
    have:=hslot.tree_inv
    cases this with
    | nil _ cap a=>exact⟨a,cap,rfl⟩
    | tree _ _ b o cap f=>exact⟨_,cap,rfl⟩
  refine (h a cap).2 γ (by simpa using hsz) ⟨fun k=>?_,hs.obs,hs.inj,hs.nz,hs.zlt⟩
  by_cases hk:k=pre.length
  · subst hk
    show RelV objs γ.w γ.Z γ.blk ((pre++.lit (.slice a 0 cap)::post).getD pre.length .undef) _
    rw[show (pre++AV.lit (.slice a 0 cap)::post).getD pre.length .undef=.lit (.slice a 0 cap) by simp,hcv]
    exact .lit _
  · have:=hs.slots k
    show RelV objs γ.w γ.Z γ.blk ((pre++.lit (.slice a 0 cap)::post).getD k .undef) _
    have e:(pre++AV.lit (.slice a 0 cap)::post).getD k .undef=(pre++AV.tree sz []::post).getD k .undef:=by
      simp only[List.getD_eq_getElem?_getD]
      congr 1
      rcases Nat.lt_or_ge k pre.length with h' | h'
      · rw[List.getElem?_append_left h',List.getElem?_append_left h']
      · rw[List.getElem?_append_right h',List.getElem?_append_right h']
        obtain ⟨j,hj⟩ :∃j,k - pre.length=j+1:=⟨k - pre.length - 1,by omega⟩
        rw[hj];simp
    rw[e];exact this
theorem Turns.emptyV (d sz:Nat) {a:Option Addr} {cap:Nat} (h:σ.env d=.lit (.slice a 0 cap)):Turns n0 σ ⟨upd σ.env d (.tree sz []),σ.objs⟩:=by
  intro os γ0 γ _ hs hf
  refine⟨γ,rfl,rfl,⟨fun k=>?_,hs.obs,hs.inj,hs.nz,hs.zlt⟩,hf⟩
  show RelV σ.objs γ.w γ.Z γ.blk (upd σ.env d (.tree sz []) k) _
  by_cases hk:k=d
  · subst hk
    have:=hs.slots k
    rw[h] at this
    rw[upd_same,this.lit_inv]
    exact .frz _ _ (.nil sz cap a)
  · rw[upd,if_neg hk];exact hs.slots k
end Go.Am

