import Derived.Test.YtdipcmigdbnheaaGreatX06
import Derived.Laws.StructEq
set_option linter.unusedVariables false
set_option linter.unusedSimpArgs false
set_option linter.unnecessarySimpa false
set_option linter.unusedSectionVars false
set_option maxHeartbeats 64000000
set_option maxRecDepth 20000
open List renaming drop_drop→G',take_append_drop→xI,map_cons→du,range→bn,contains_iff_mem→pW,mem_filter→BD,mem_range→og,tail_drop→G3,getElem?_append_left→dH,getElem?_append_right→fA,all_eq_true→eW,mem_cons→bW,mem_of_getElem?→iy,map_congr_left→qC,mem_append→dh,not_mem_nil→lX,range'→lU
open Bool renaming false_eq_true→iJ,and_eq_true→a7,eq_iff_iff→mq,not_eq_true'→jh,true_and→gV,false_and→qI,false_or→lA,or_eq_true→jE
open Array renaming getElem?_eq_some_iff→pk,toList_append→zF,replicate→xK
namespace Go.Am
variable {P:Program}
def wE (P:Program):List Field→Nat→Nat→Bool
  | [],o,n=>o == n
  | f::fs,o,n=>f.offset == o && wE P fs (o+P.cellsOf f.type) n
def tN (P:Program):Nat→TypeId→Bool
  | 0,_=>false
  | d+1,t =>
    match P.underlying t with
    | some (.int .i64)=>P.cellsOf t == 1
    | some (.struct fs) => (P.info? t).isSome && !P.stoodInHeld t && wE P fs.toList 0 (P.cellsOf t) && fs.toList.all fun f => f.name != "_" && tN P d f.type
    | _=>false
def tO (P:Program) (t:TypeId) (xs:List Int):Value :=
  match P.underlying t with
  | some (.struct _)=>.agg (xs.map (Value.int .i64)).toArray
  | _=>.int .i64 (xs.getD 0 0)
theorem OD {as bs:List Int} {o c:Nat} (h:as.length=bs.length):as.drop o=bs.drop o↔(as.drop o).take c=(bs.drop o).take c∧as.drop (o+c)=bs.drop (o+c):=by
  constructor
  · intro e
    refine⟨by rw[e],?_⟩
    rw[← G',← G',e]
  · rintro ⟨e1,e2⟩
    rw[← G',← G'] at e2
    rw[← xI c (as.drop o),← xI c (bs.drop o),e1,e2]
theorem OE (w:World) {d:Nat} {t:TypeId} (h:tN P d t=true) {as:List Int} {o:Nat} (ho:o+P.cellsOf t≤as.length) :
    (part t (as.map (Value.int .i64)).toArray o).run P w=.ok (tO P t ((as.drop o).take (P.cellsOf t))) w:=by
  cases d with
  | zero=>simp[tN] at h
  | succ d =>
    unfold tN at h
    cases hu:P.underlying t with
    | none=>simp[hu] at h
    | some k =>
      rw[hu] at h
      cases k<;>try (simp at h;done)
      case int q =>
        cases q<;>try (simp at h;done)
        have hc:P.cellsOf t=1:=by simpa using h
        rw[hc] at ho
        have hx:((as.map (Value.int .i64)).toArray)[o]?=some (.int .i64 (as.getD o 0)):=by
          have:o<as.length:=by omega
          simp[this]
        simp only[part,isAgg,Sem.run_bind,run_underlying hu,Result.andThen_ok,Sem.run_pure,iJ,if_false,Sem.run_ite,hx]
        have:o<as.length:=by omega
        simp[tO,hu,hc,this]
      case struct fs =>
        simp only[a7] at h
        obtain ⟨i,hi⟩:=Option.isSome_iff_exists.1 h.1.1.1
        have hs:∀ w,(sizeOf t).run P w=.ok (P.cellsOf t) w:=fun w=>by
          simp[sizeOf,typeInfo,Program.cellsOf,hi,run_program]
        simp only[part,isAgg,Sem.run_bind,run_underlying hu,Result.andThen_ok,Sem.run_pure,if_true,Sem.run_ite,hs]
        simp only[tO,hu]
        congr 2
        simp[List.map_take,List.map_drop]
theorem OF {D d:Nat} (ih:∀ t,tN P d t=true→∀ (w:World) (as bs:List Int),as.length=P.cellsOf t→bs.length=P.cellsOf t→(Op.equalIn (D+d) t (tO P t as) (tO P t bs)).run P w=.ok (decide (as=bs)) w) {as bs:List Int} (hl:as.length=bs.length) :
    ∀ (fs : List Field) (o : Nat) (w : World), wE P fs o as.length = true → (fs.all fun f => f.name != "_" && tN P d f.type) = true →
      o+(fs.map fun f=>P.cellsOf f.type).sum=as.length→(Op.eqFields (D+d) (as.map (Value.int .i64)).toArray (bs.map (Value.int .i64)).toArray fs).run P w=.ok (decide (as.drop o=bs.drop o)) w
  | [],o,w,ht,_,hs=>by
    have:o=as.length:=by simpa [wE] using ht
    subst this
    have:bs.drop as.length=[]:=List.drop_eq_nil_of_le (by omega)
    simp[Op.eqFields,this]
  | f::fs,o,w,ht,ha,hs=>by
    simp only[wE,a7,beq_iff_eq] at ht
    obtain ⟨rfl,ht⟩:=ht
    simp only[List.all_cons,a7,bne_iff_ne] at ha
    simp only[du,List.sum_cons] at hs
    have h1:=OE (as:=as) w ha.1.2 (o:=f.offset) (by omega)
    have h2:=OE (as:=bs) w ha.1.2 (o:=f.offset) (by omega)
    have h3:=ih f.type ha.1.2 w ((as.drop f.offset).take (P.cellsOf f.type)) ((bs.drop f.offset).take (P.cellsOf f.type)) (by simp;omega) (by simp;omega)
    have h4:=OF ih hl fs (f.offset+P.cellsOf f.type) w ht ha.2 (by omega)
    simp only[Op.eqFields]
    rw[if_pos ha.1.1]
    simp only[Sem.run_bind,h1,h2,h3,Result.andThen_ok,Sem.run_ite,Sem.run_pure,h4]
    by_cases he:(as.drop f.offset).take (P.cellsOf f.type)=(bs.drop f.offset).take (P.cellsOf f.type)
    · rw[decide_eq_true he]
      simp only[Bool.not_true,iJ,if_false]
      congr 1
      rw[decide_eq_decide,OD (o:=f.offset) (c:=P.cellsOf f.type) hl]
      simp[he]
    · rw[decide_eq_false he]
      simp only[Bool.not_false,if_true]
      congr 1
      rw[eq_comm,decide_eq_false_iff_not,OD (o:=f.offset) (c:=P.cellsOf f.type) hl]
      exact fun h=>he h.1
theorem OG:∀ (fs:List Field) (o n:Nat),wE P fs o n=true→o+(fs.map fun f=>P.cellsOf f.type).sum=n
  | [],o,n,h=>by simpa [wE] using h
  | f::fs,o,n,h=>by
    simp only[wE,a7,beq_iff_eq] at h
    have:=OG fs _ n h.2
    simp only[du,List.sum_cons];omega
theorem OH (D:Nat):∀ (d:Nat) (t:TypeId),tN P d t=true→∀ (w:World) (as bs:List Int),as.length=P.cellsOf t→bs.length=P.cellsOf t→(Op.equalIn (D+d) t (tO P t as) (tO P t bs)).run P w=.ok (decide (as=bs)) w
  | 0,t,h=>by simp[tN] at h
  | d+1,t,h=>by
    intro w as bs ha hb
    unfold tN at h
    cases hu:P.underlying t with
    | none=>simp[hu] at h
    | some k =>
      rw[hu] at h
      cases k<;>try (simp at h;done)
      case int q =>
        cases q<;>try (simp at h;done)
        have hc:P.cellsOf t=1:=by simpa using h
        rw[hc] at ha hb
        match as,bs,ha,hb with
        | [a],[b],_,_ =>
          simp only[tO,hu,List.getD_cons_zero]
          rw[show D+(d+1)=(D+d)+1 from rfl,run_equalIn_int w (D+d) t .i64 .i64 a b hu]
          congr 1
          rw[mq];simp
      case struct fs =>
        simp only[a7,jh] at h
        have hf:P.fieldsOf t=fs:=by simp[Program.fieldsOf,hu]
        simp only[tO,hu]
        rw[show D+(d+1)=(D+d)+1 from rfl,run_equalIn_struct w (D+d) t _ _ (by rw[hf];exact hu) h.1.1.2,hf]
        have:=OF (D:=D) (OH D d) (as:=as) (bs:=bs) (by omega) fs.toList 0 w (by rw[ha];exact h.1.2) h.2 (by rw[ha];exact OG _ _ _ h.1.2)
        simpa using this
def Ir (P:Program) (d:Nat) (t:TypeId) (n:Nat):Bool :=
  (match P.underlying t with | some (.struct _)=>true | _=>false) && decide (d≤10000) && tN P d t && (P.cellsOf t == n)
theorem v8.of {t:TypeId} (d:Nat) {n:Nat} (h:Ir P d t n=true):v8 P t n:=by
  intro w as bs ha hb
  simp only[Ir,a7,decide_eq_true_eq,beq_iff_eq] at h
  obtain ⟨⟨⟨h1,hd⟩,h2⟩,h3⟩:=h
  have:=OH (10000 - d) d t h2 w as bs (by omega) (by omega)
  rw[Nat.sub_add_cancel hd] at this
  cases hu:P.underlying t with
  | none=>rw[hu] at h1;simp at h1
  | some k =>
    cases k<;>rw[hu] at h1<;>try (simp at h1;done)
    simpa only[tO,hu] using this
end Go.Am
namespace Go.Am
variable {P:Program} {N n0:Nat} {σ:St} {Q:Exit→St→Prop}
def sH (o:Oper):Bool :=
  match o.op with
  | .call c=>match c.callee with
    | .value _=>true
    | _=>false
  | _=>false
def Al (ops:Array Oper):List Nat:=(bn ops.size).filter fun i=>match ops[i]? with | some o=>sH o | none=>false
def q8 (P:Program) (ops:Array Oper):List Oper→(St→Prop)→St→Prop
  | [],K,σ=>K σ
  | o::r,K,σ=>dS P ops (sH o) o (q8 P ops r K) σ
theorem OI {ops:Array Oper} {K:St→Prop}:q8 P ops [] K σ=K σ:=by simp only[q8]
theorem Is {ops:Array Oper} {o:Oper} {r:List Oper} {K:St→Prop}:q8 P ops (o::r) K σ=dS P ops (sH o) o (q8 P ops r K) σ:=by simp only[q8]
theorem abg {ops:Array Oper} {i:Nat} {o:Oper} (h:ops[i]?=some o):(Al ops).contains i=sH o:=by
  have hi:i<ops.size:=(pk.1 h).1
  rw[mq,pW]
  simp only[Al,BD,og,hi,true_and,h]
theorem Iu {ops:Array Oper} {K:St→Prop}:∀ (l:List Oper) (i:Nat) (σ:St),ops.toList.drop i=l→q8 P ops l K σ→qh P ops (Al ops) i l K σ
  | [],i,σ,_,h=>h
  | o::r,i,σ,hl,h=>by
    have hi:ops[i]?=some o:=by
      have:(ops.toList.drop i)[0]?=some o:=by rw[hl];rfl
      simpa using this
    have hr:ops.toList.drop (i+1)=r:=by
      have:=congrArg List.tail hl
      simpa [G3] using this
    rw[EU,abg hi]
    rw[Is] at h
    exact BK (fun s hs=>Iu r (i+1) s hr hs) h
def EX (ops:Array Oper):Bool:=EV ops (Al ops)
theorem abh {id:Nat} {ops:Array Oper} {y:Code} (hm:P.follows .mixedOrders=true) (hd:gz N ops=true) (ht:EX ops=true) (h:∀ K:St→Prop,(∀ s,W P N n0 y Q s→K s)→q8 P ops ops.toList K σ) :
    W P N n0 (.seq (.region id ops true) y) Q σ :=
  OC (Al ops) hm hd ht fun K hK=>Iu ops.toList 0 σ rfl (h K hK)
theorem abi {id:Nat} {ops:Array Oper} (hm:P.follows .mixedOrders=true) (hd:gz N ops=true) (ht:EX ops=true) (h:∀ K:St→Prop,(∀ s,Q .normal s→K s)→q8 P ops ops.toList K σ) :
    W P N n0 (.region id ops true) Q σ :=
  Ak (Al ops) hm hd ht fun K hK=>Iu ops.toList 0 σ rfl (h K hK)
def vc:List Oper→Bool
  | []=>false
  | o::r=>sH o || vc r
def An (ops:Array Oper):List Nat:=(bn ops.size).filter fun i=>match ops[i]? with | some o=>sH o && vc (ops.toList.drop (i+1)) | none=>false
def q9 (P:Program) (ops:Array Oper):List Oper→(St→Prop)→St→Prop
  | [],K,σ=>K σ
  | o::r,K,σ=>dS P ops (sH o && vc r) o (q9 P ops r K) σ
theorem OJ {ops:Array Oper} {K:St→Prop}:q9 P ops [] K σ=K σ:=by simp only[q9]
theorem Iv {ops:Array Oper} {o:Oper} {r:List Oper} {K:St→Prop}:q9 P ops (o::r) K σ=dS P ops (sH o && vc r) o (q9 P ops r K) σ:=by simp only[q9]
theorem abj {ops:Array Oper} {i:Nat} {o:Oper} {r:List Oper} (h:ops[i]?=some o) (hr:ops.toList.drop (i+1)=r):(An ops).contains i=(sH o && vc r):=by
  have hi:i<ops.size:=(pk.1 h).1
  rw[mq,pW]
  simp only[An,BD,og,hi,true_and,h,hr]
theorem Iw {ops:Array Oper} {K:St→Prop}:∀ (l:List Oper) (i:Nat) (σ:St),ops.toList.drop i=l→q9 P ops l K σ→qh P ops (An ops) i l K σ
  | [],i,σ,_,h=>h
  | o::r,i,σ,hl,h=>by
    have hi:ops[i]?=some o:=by
      have:(ops.toList.drop i)[0]?=some o:=by rw[hl];rfl
      simpa using this
    have hr:ops.toList.drop (i+1)=r:=by
      have:=congrArg List.tail hl
      simpa [G3] using this
    rw[EU,abj hi hr]
    rw[Iv] at h
    exact BK (fun s hs=>Iw r (i+1) s hr hs) h
def EY (ops:Array Oper):Bool:=EV ops (An ops)
theorem abk {id:Nat} {ops:Array Oper} {y:Code} (hm:P.follows .mixedOrders=true) (hd:gz N ops=true) (ht:EY ops=true) (h:∀ K:St→Prop,(∀ s,W P N n0 y Q s→K s)→q9 P ops ops.toList K σ) :
    W P N n0 (.seq (.region id ops true) y) Q σ :=
  OC (An ops) hm hd ht fun K hK=>Iw ops.toList 0 σ rfl (h K hK)
theorem abl {id:Nat} {ops:Array Oper} (hm:P.follows .mixedOrders=true) (hd:gz N ops=true) (ht:EY ops=true) (h:∀ K:St→Prop,(∀ s,Q .normal s→K s)→q9 P ops ops.toList K σ) :
    W P N n0 (.region id ops true) Q σ :=
  Ak (An ops) hm hd ht fun K hK=>Iw ops.toList 0 σ rfl (h K hK)
theorem ao.empty {f:FuncId} {sz:Nat} {pre post:List AV} {aa bh:List Ob} {res:AV} (h:∀ a cap,ao P f (pre++.lit (.slice a 0 cap)::post) aa res bh):ao P f (pre++.tree sz []::post) aa res bh:=by
  refine⟨(h none 0).1,fun γ a5 hs=>?_⟩
  have jW:=hs.aw pre.length
  have he:(pre++.tree sz []::post).getD pre.length .undef=.tree sz []:=by simp
  rw[show (⟨fun k=>(pre++AV.tree sz []::post).getD k .undef,aa⟩:St).env pre.length=.tree sz [] from he] at jW
  obtain ⟨a,cap,aZ⟩ :∃a cap,γ.tmps.getD pre.length Go.undef=.slice a 0 cap:=by
    generalize γ.tmps.getD pre.length Go.undef=cv at jW
    have:=jW.yg
    cases this with
    | nil _ cap a=>exact⟨a,cap,rfl⟩
    | tree _ _ b o cap f=>exact⟨_,cap,rfl⟩
  refine (h a cap).2 γ (by simpa using a5) ⟨fun k=>?_,hs.eN,hs.inj,hs.nz,hs.iq⟩
  by_cases hk:k=pre.length
  · subst hk
    show aB aa γ.w γ.Z γ.blk ((pre++.lit (.slice a 0 cap)::post).getD pre.length .undef) _
    rw[show (pre++AV.lit (.slice a 0 cap)::post).getD pre.length .undef=.lit (.slice a 0 cap) by simp,aZ]
    exact .lit _
  · have:=hs.aw k
    show aB aa γ.w γ.Z γ.blk ((pre++.lit (.slice a 0 cap)::post).getD k .undef) _
    have e:(pre++AV.lit (.slice a 0 cap)::post).getD k .undef=(pre++AV.tree sz []::post).getD k .undef:=by
      simp only[List.getD_eq_getElem?_getD]
      congr 1
      rcases Nat.lt_or_ge k pre.length with h' | h'
      · rw[dH h',dH h']
      · rw[fA h',fA h']
        obtain ⟨j,hj⟩ :∃j,k - pre.length=j+1:=⟨k - pre.length - 1,by omega⟩
        rw[hj];simp
    rw[e];exact this
theorem aQ.abm (d sz:Nat) {a:Option Addr} {cap:Nat} (h:σ.env d=.lit (.slice a 0 cap)):aQ n0 σ ⟨jG σ.env d (.tree sz []),σ.aa⟩:=by
  intro os γ0 γ _ hs hf
  refine⟨γ,rfl,rfl,⟨fun k=>?_,hs.eN,hs.inj,hs.nz,hs.iq⟩,hf⟩
  show aB σ.aa γ.w γ.Z γ.blk (jG σ.env d (.tree sz []) k) _
  by_cases hk:k=d
  · subst hk
    have:=hs.aw k
    rw[h] at this
    rw[aap,this.cH]
    exact .cI _ _ (.nil sz cap a)
  · rw[jG,if_neg hk];exact hs.aw k
end Go.Am
namespace Go.Am
theorem EZ (k:IntKind) (n:Int):ei (.int k n)=.lit (.int k n):=by first|rfl|(cases b<;>rfl)|(simp only[ei];done)|(unfold fE;split<;>simp_all)
theorem E0 (b:Bool):ei (.bool b)=.lit (.bool b):=by first|rfl|(cases b<;>rfl)|(simp only[ei];done)|(unfold fE;split<;>simp_all)
theorem E1 (a:Option Addr) (n c:Nat):ei (.slice a n c)=.lit (.slice a n c):=by first|rfl|(cases b<;>rfl)|(simp only[ei];done)|(unfold fE;split<;>simp_all)
theorem E2 (s:ByteArray):ei (.string s)=.lit (.string s):=by first|rfl|(cases b<;>rfl)|(simp only[ei];done)|(unfold fE;split<;>simp_all)
theorem E3 (s:Array Value):ei (.tuple s)=.lit (.tuple s):=by first|rfl|(cases b<;>rfl)|(simp only[ei];done)|(unfold fE;split<;>simp_all)
theorem OK (ρ:Nat→Nat) (v:Value):aX ρ (.lit v)=.lit v:=by first|rfl|(cases b<;>rfl)|(simp only[ei];done)|(unfold fE;split<;>simp_all)
theorem OL (ρ:Nat→Nat) (s:Nat) (r:List (List AV)):aX ρ (.tree s r)=.tree s r:=by first|rfl|(cases b<;>rfl)|(simp only[ei];done)|(unfold fE;split<;>simp_all)
theorem ON (ρ:Nat→Nat) (r:List AV):aX ρ (.dz r)=.dz r:=by first|rfl|(cases b<;>rfl)|(simp only[ei];done)|(unfold fE;split<;>simp_all)
theorem OO (ρ:Nat→Nat):aX ρ .undef=.undef:=by first|rfl|(cases b<;>rfl)|(simp only[ei];done)|(unfold fE;split<;>simp_all)
theorem OP (v:Value):cellsOf (.lit v)=[.lit v]:=by first|rfl|(cases b<;>rfl)|(simp only[ei];done)|(unfold fE;split<;>simp_all)
theorem OQ (s:Nat) (r:List (List AV)):cellsOf (.tree s r)=[.tree s r]:=by first|rfl|(cases b<;>rfl)|(simp only[ei];done)|(unfold fE;split<;>simp_all)
theorem OR (r:List AV):cellsOf (.dz r)=[.dz r]:=by first|rfl|(cases b<;>rfl)|(simp only[ei];done)|(unfold fE;split<;>simp_all)
theorem OS (a b c d:Nat):cellsOf (.ref a b c d)=[.ref a b c d]:=by first|rfl|(cases b<;>rfl)|(simp only[ei];done)|(unfold fE;split<;>simp_all)
theorem OT (a b c:Nat):cellsOf (.ptr a b c)=[.ptr a b c]:=by first|rfl|(cases b<;>rfl)|(simp only[ei];done)|(unfold fE;split<;>simp_all)
theorem OU (id:Nat):cellsOf (.fL id)=[.fL id]:=rfl
theorem OV (t:TypeId) (v:AV):cellsOf (.er t v)=[.er t v]:=rfl
theorem OW (f:FuncId) (l:List AV):cellsOf (.fn f l)=[.fn f l]:=by first|rfl|(cases b<;>rfl)|(simp only[ei];done)|(unfold fE;split<;>simp_all)
theorem OX (t:Bool) (s:Array Value) (b:AV):fE t (.lit (.tuple s)) b=if t=true then .lit (.tuple s) else b:=by first|rfl|(cases b<;>rfl)|(simp only[ei];done)|(unfold fE;split<;>simp_all)
theorem OY (t:Bool) (s:Array Value) (b:AV):fE t b (.lit (.tuple s))=if t=true then b else .lit (.tuple s):=by first|rfl|(cases b<;>rfl)|(simp only[ei];done)|(unfold fE;split<;>simp_all)
theorem OZ (t:Bool) (s u:List AV):fE t (.agg s) (.agg u)=if t=true then .agg s else .agg u:=by first|rfl|(cases b<;>rfl)|(simp only[ei];done)|(unfold fE;split<;>simp_all)
theorem O0 (l:List AV):cm (.agg l)=false:=by first|rfl|(cases b<;>rfl)|(simp only[ei];done)|(unfold fE;split<;>simp_all)
theorem O1 (l:List AV):cm (.bM l)=false:=by first|rfl|(cases b<;>rfl)|(simp only[ei];done)|(unfold fE;split<;>simp_all)
theorem O2  : cm .undef=false:=by first|rfl|(cases b<;>rfl)|(simp only[ei];done)|(unfold fE;split<;>simp_all)
theorem O3 (k:IntKind) (n:Int):Value.oneCell' (.int k n)=true:=by first|rfl|(cases b<;>rfl)|(simp only[ei];done)|(unfold fE;split<;>simp_all)
theorem O4 (b:Bool):Value.oneCell' (.bool b)=true:=by first|rfl|(cases b<;>rfl)|(simp only[ei];done)|(unfold fE;split<;>simp_all)
theorem O5 (a:Option Addr) (n c:Nat):Value.oneCell' (.slice a n c)=true:=by first|rfl|(cases b<;>rfl)|(simp only[ei];done)|(unfold fE;split<;>simp_all)
theorem O6 (s:ByteArray):Value.oneCell' (.string s)=true:=by first|rfl|(cases b<;>rfl)|(simp only[ei];done)|(unfold fE;split<;>simp_all)
theorem O7 (a:Option Addr):Value.oneCell' (.pointer a)=true:=by first|rfl|(cases b<;>rfl)|(simp only[ei];done)|(unfold fE;split<;>simp_all)
theorem O8 (a:Option Nat):Value.oneCell' (.map a)=true:=by first|rfl|(cases b<;>rfl)|(simp only[ei];done)|(unfold fE;split<;>simp_all)
theorem Pc:type_of% @zP.eq_1∧type_of% @zP.eq_2∧type_of% @v5.eq_1∧type_of% @v5.eq_2∧type_of% @zQ.eq_1∧type_of% @zQ.eq_2∧type_of% @r9.eq_1∧type_of% @r9.eq_2∧type_of% @r9.eq_3∧type_of% @Hn.eq_1∧type_of% @Hq.eq_1∧type_of% @gj.eq_1∧type_of% @gj.eq_2∧type_of% @gj.eq_3∧type_of% @gj.eq_4∧type_of% @gj.eq_5∧type_of% @gj.eq_6∧type_of% @gj.eq_7∧type_of% @gj.eq_8∧type_of% @gj.eq_9∧type_of% @gj.eq_10∧type_of% @gj.eq_11∧type_of% @gj.eq_12∧type_of% @gj.eq_13∧type_of% @l6.eq_1∧type_of% @dS.eq_1 :=
  ⟨@zP.eq_1,@zP.eq_2,@v5.eq_1,@v5.eq_2,@zQ.eq_1,@zQ.eq_2,@r9.eq_1,@r9.eq_2,@r9.eq_3,@Hn.eq_1,@Hq.eq_1,@gj.eq_1,@gj.eq_2,@gj.eq_3,@gj.eq_4,@gj.eq_5,@gj.eq_6,@gj.eq_7,@gj.eq_8,@gj.eq_9,@gj.eq_10,@gj.eq_11,@gj.eq_12,@gj.eq_13,@l6.eq_1,@dS.eq_1⟩
theorem Sc:type_of% @ev.eq_1∧type_of% @ev.eq_2∧type_of% @ev.eq_3∧type_of% @ev.eq_4∧type_of% @ei.eq_1∧type_of% @St.put.eq_1∧type_of% @St.put.eq_2∧type_of% @tz.eq_1∧type_of% @tz.eq_2∧type_of% @tA.eq_1∧type_of% @tA.eq_2∧type_of% @fE.eq_1∧type_of% @iT.eq_1∧type_of% @iT.eq_2∧type_of% @dQ.eq_1∧type_of% @dQ.eq_2∧type_of% @aX.eq_1∧type_of% @aX.eq_2∧type_of% @aX.eq_3∧type_of% @aX.eq_4∧type_of% @aX.eq_5∧type_of% @aX.eq_6∧type_of% @m6.eq_1∧type_of% @m6.eq_2∧type_of% @a9.eq_1∧type_of% @rowOf.eq_1∧type_of% @nG.eq_1∧type_of% @nJ.eq_1∧type_of% @nJ.eq_2∧type_of% @p8.eq_1∧type_of% @p8.eq_2∧type_of% @cellsOf.eq_1∧type_of% @setCells.eq_1∧type_of% @setCells.eq_2∧type_of% @l4.eq_1∧type_of% @l4.eq_2∧type_of% @l5.eq_1∧type_of% @l5.eq_2∧type_of% @cm.eq_1∧type_of% @cm.eq_2∧type_of% @cm.eq_3∧type_of% @cm.eq_4∧type_of% @cm.eq_5∧type_of% @cm.eq_6∧type_of% @Ty.isAgg.eq_1∧type_of% @Value.oneCell'.eq_1∧type_of% @Value.oneCell'.eq_2∧type_of% @sH.eq_1∧type_of% @vc.eq_1∧type_of% @vc.eq_2∧type_of% @au.eq_1∧type_of% @dJ.eq_1∧type_of% @bA.eq_1∧type_of% @bc.eq_1∧type_of% @dF.eq_1∧type_of% @bu.eq_1∧type_of% @bP.eq_1∧type_of% @ow.eq_1∧type_of% @ow.eq_2∧type_of% @EU∧type_of% @OB∧type_of% @Is∧type_of% @OI∧type_of% @Iv∧type_of% @OJ∧type_of% @gV∧type_of% @qI∧type_of% @EZ∧type_of% @E0∧type_of% @E1∧type_of% @E2∧type_of% @E3∧type_of% @OK∧type_of% @OL∧type_of% @ON∧type_of% @OO∧type_of% @OP∧type_of% @OQ∧type_of% @OR∧type_of% @OS∧type_of% @OT∧type_of% @OW∧type_of% @OX∧type_of% @OY∧type_of% @OZ∧type_of% @O0∧type_of% @O1∧type_of% @O2∧type_of% @O3∧type_of% @O4∧type_of% @O5∧type_of% @O6∧type_of% @O7∧type_of% @O8∧type_of% @cm.eq_7∧type_of% @OV∧type_of% @Mm∧type_of% @MP∧type_of% @MQ∧type_of% @Ho.eq_1∧type_of% @ov.eq_1∧type_of% @ov.eq_2∧type_of% @aX.eq_7∧type_of% @cm.eq_8∧type_of% @OU∧type_of% @MI∧type_of% @MJ∧type_of% @MK∧type_of% @MO∧type_of% @ML∧type_of% @MN∧type_of% @Mf∧type_of% @lC.eq_1∧type_of% @keyOf.eq_1∧type_of% @keyOf.eq_2∧type_of% @jF.eq_1 :=
  ⟨@ev.eq_1,@ev.eq_2,@ev.eq_3,@ev.eq_4,@ei.eq_1,@St.put.eq_1,@St.put.eq_2,@tz.eq_1,@tz.eq_2,@tA.eq_1,@tA.eq_2,@fE.eq_1,@iT.eq_1,@iT.eq_2,@dQ.eq_1,@dQ.eq_2,@aX.eq_1,@aX.eq_2,@aX.eq_3,@aX.eq_4,@aX.eq_5,@aX.eq_6,@m6.eq_1,@m6.eq_2,@a9.eq_1,@rowOf.eq_1,@nG.eq_1,@nJ.eq_1,@nJ.eq_2,@p8.eq_1,@p8.eq_2,@cellsOf.eq_1,@setCells.eq_1,@setCells.eq_2,@l4.eq_1,@l4.eq_2,@l5.eq_1,@l5.eq_2,@cm.eq_1,@cm.eq_2,@cm.eq_3,@cm.eq_4,@cm.eq_5,@cm.eq_6,@Ty.isAgg.eq_1,@Value.oneCell'.eq_1,@Value.oneCell'.eq_2,@sH.eq_1,@vc.eq_1,@vc.eq_2,@au.eq_1,@dJ.eq_1,@bA.eq_1,@bc.eq_1,@dF.eq_1,@bu.eq_1,@bP.eq_1,@ow.eq_1,@ow.eq_2,@EU,@OB,@Is,@OI,@Iv,@OJ,@gV,@qI,@EZ,@E0,@E1,@E2,@E3,@OK,@OL,@ON,@OO,@OP,@OQ,@OR,@OS,@OT,@OW,@OX,@OY,@OZ,@O0,@O1,@O2,@O3,@O4,@O5,@O6,@O7,@O8,@cm.eq_7,@OV,@Mm,@MP,@MQ,@Ho.eq_1,@ov.eq_1,@ov.eq_2,@aX.eq_7,@cm.eq_8,@OU,@MI,@MJ,@MK,@MO,@ML,@MN,@Mf,@lC.eq_1,@keyOf.eq_1,@keyOf.eq_2,@jF.eq_1⟩
theorem Lc:type_of% @ev.eq_1∧type_of% @ev.eq_2∧type_of% @ev.eq_3∧type_of% @ev.eq_4∧type_of% @ei.eq_1∧type_of% @St.put.eq_1∧type_of% @St.put.eq_2∧type_of% @EZ∧type_of% @E0∧type_of% @E1∧type_of% @E2∧type_of% @E3 :=
  ⟨@ev.eq_1,@ev.eq_2,@ev.eq_3,@ev.eq_4,@ei.eq_1,@St.put.eq_1,@St.put.eq_2,@EZ,@E0,@E1,@E2,@E3⟩
theorem iV {P:Program} {N n0:Nat} (id:Nat) {ops:Array Oper} {d:Bool} {y:Code} {Q:Exit→St→Prop} {σ:St} (h:W P N n0 (.seq (.region id ops d) y) Q σ):W P N n0 (.seq (.region id ops d) y) Q σ:=h
theorem iW {P:Program} {N n0:Nat} (id:Nat) {ops:Array Oper} {d:Bool} {Q:Exit→St→Prop} {σ:St} (h:W P N n0 (.region id ops d) Q σ):W P N n0 (.region id ops d) Q σ:=h
end Go.Am
namespace Go.Am
variable {P:Program} {N n0:Nat} {σ:St}
def wF:Ob→Bool
  | .gone=>false
  | .var cs=>jl cs
  | .arr _ rows=>rows.all jl
  | .mp _ _=>false
theorem O9 {ρ:Nat→Nat} {o:Ob} (h:wF o=true):bD ρ o=o:=by
  cases o with
  | gone=>simp[wF] at h
  | var cs =>
    have:=zX ρ cs h
    rw[uW] at this
    simp[bD,this]
  | arr sz rows=>exact BN (by simpa [wF,eW] using h)
  | mp ag L=>simp[wF] at h
def O' (hd:Nat) (c a:AV):Prop:=(a=c∧gy c=true)∨(c=.ptr 0 0 0∧a=.ptr hd 0 0)
def Ci (P:Program) (hd:Nat) (g:FuncId) (args:List AV) (dst:Option Tmp) (K:St→Prop) (σ:St):Prop :=
  ∃ cU D res D',ao P g cU [D] res [D']∧wF D=true∧wF D'=true∧σ.aa[hd]?=some D∧gy res=true∧iK (O' hd) cU args∧K ((⟨σ.env,σ.aa.set hd D'⟩:St).put dst res)
theorem abn {hd:Nat} {g:FuncId} {args:List AV} {dst:Option Tmp} {K:St→Prop} (h:Ci P hd g args dst K σ):p7 P g args dst K σ:=by
  obtain ⟨cU,D,res,D',h1,h2,h3,h4,h5,h6,h7⟩:=h
  obtain ⟨h8,h9⟩:=h6.spec
  have hρ:a9 σ.aa.length [hd] 0=hd:=by simp[a9]
  refine⟨[hd],false,cU,[D],res,[D'],h1,⟨by simp,rfl,fun j o hj=>?_,h8,fun j c d hc ss=>?_,by simp⟩,?_⟩
  · cases j with
    | zero=>simp at hj;subst hj;simp[O9 h2,h4]
    | succ j=>simp at hj
  · rcases h9 j c d hc ss with ⟨rfl,hn⟩ | ⟨rfl,rfl⟩
    · exact .pure hn
    · exact .eq (by simp[aX,hρ])
  · have e:dQ σ.aa [hd] ([D'].map (bD (a9 σ.aa.length [hd])))=σ.aa.set hd D':=by simp[dQ,O9 h3]
    show K (({ σ with aa:=dQ σ.aa [hd] ([D'].map (bD (a9 σ.aa.length [hd]))) }:St).put dst (aX (a9 σ.aa.length [hd]) res))
    rw[e,yb _ _ h5];exact h7
def wG (hd:Nat) (P:Program) (o:Oper) (σ:St) (K:St→Prop):Prop :=
  match o.op with
  | .call { callee:=.value f,args,.. } =>
    match ev σ f with
    | .fn g bJ=>Ci P hd g (args.toList.map (ev σ)++bJ) o.dst K σ
    | _=>False
  | _=>False
theorem abp {hd:Nat} {o:Oper} {K:St→Prop} (h:wG hd P o σ K):bb P o σ K:=by
  unfold wG at h
  unfold bb
  split at h
  · rename_i f args fD cO
    simp only[cO]
    split at h
    · rename_i g bJ he
      simp only[he]
      exact abn h
    · exact h.elim
  · exact h.elim
def nV (hd:Nat):AV→Bool
  | .ptr id _ _=>id != hd
  | .ref id _ _ _=>id != hd
  | .fL id=>id != hd
  | _=>true
def re (hd:Nat) (σ:St):List Operand→Bool
  | []=>true
  | x::l=>nV hd (ev σ x) && re hd σ l
def dZ (hd:Nat) (q:Bool) (o:Oper) (σ:St):Bool:=q || cls o.op == 0 || decide (3≤cls o.op) || re hd σ o.op.operands.toList
theorem Pa {hd:Nat}:∀ {l:List Operand},re hd σ l=true→∀ x∈l,su (ev σ x)≠some hd
  | [],_,x,hx=>by simp at hx
  | y::l,h,x,hx=>by
    simp only[re,a7] at h
    rcases bW.1 hx with rfl | hx
    · intro e
      have h1:=h.1
      cases hv:ev σ x<;>rw[hv] at e h1<;>simp[su,nV] at e h1
      · exact h1 e
      · exact h1 e
      · exact h1 e
    · exact Pa h.2 x hx
theorem Ix {hd:Nat} {σ2:St}:∀ {l:List Operand},(∀ x∈l,ev σ2 x=ev σ x)→re hd σ2 l=re hd σ l
  | [],_=>rfl
  | y::l,h=>by
    simp only[re]
    rw[h y (by simp),Ix fun x hx=>h x (by simp[hx])]
def j3 (P:Program) (ops:Array Oper) (hd:Nat) (q dc:Bool) (o:Oper) (K:St→Prop) (σ:St):Prop :=
  match dc with
  | true=>o.guard=none∧wG hd P o σ K
  | false=>dZ hd q o σ=true∧dS P ops q o K σ
def gK (q dc:Bool) (o:Oper):Nat:=if dc then 6 else fM q o
def Cj (hd c:Nat) (a b:List Ob):Prop:=if c=6 then ∀ id,id≠hd→b[id]?=a[id]? else ku c a b
theorem abq {N:Nat} {os:List Ob} {γ0:Cx} {ops:Array Oper} {hh:Nat} (hd:∀ o∈ops.toList,∀ d,o.dst=some d→d<N) {q dc:Bool} {i:Nat} {o:Oper} (hi:ops[i]?=some o) {σ:St} {K:St→Prop}
    (h:j3 P ops hh q dc o K σ) {a:Act} {w:World} (aC:gF N os γ0 σ a w) {Q:Exit→Act→World→Prop} {next:Act→World→Prop} (hn:∀ σ' a' w',K σ'→gF N os γ0 σ' a' w'→next a' w'):wpOp P ops Q i next a w:=by
  cases dc with
  | false=>exact NA hd hi h.2 aC hn
  | true =>
    have cd:o∈ops.toList:=iy (by simpa using hi)
    unfold wpOp
    simp only[hi]
    have hw:Region.wanted o (yielded ops a.tmps)=true:=by simp[Region.wanted,h.1]
    rw[if_pos hw]
    left
    exact xX (abp h.2) aC (hd o cd) hn
theorem E4 {ops:Array Oper} {hh:Nat} {q dc:Bool} {o:Oper} {σ:St} {K:St→Prop} (hW:j3 P ops hh q dc o K σ) :
    ∃ v os,Cj hh (gK q dc o) σ.aa os∧K ((⟨σ.env,os⟩:St).put o.dst v)∧∀ (e2:Nat→AV) (K2:St→Prop),(∀ t∈o.looksAt ops,e2 t=σ.env t)→K2 ((⟨e2,os⟩:St).put o.dst v)→j3 P ops hh q dc o K2 ⟨e2,σ.aa⟩:=by
  cases dc with
  | false =>
    obtain ⟨hc,hW⟩:=hW
    obtain ⟨v,os,h1,h2,h3⟩:=BI hW
    refine⟨v,os,?_,h2,fun e2 K2 hl hK=>⟨?_,h3 e2 K2 hl hK⟩⟩
    · unfold Cj gK
      simp only[iJ,if_false]
      rw[if_neg]
      · exact h1
      · unfold fM
        split
        · omega
        · unfold cls;split<;>omega
    · unfold dZ at hc ⊢
      rw[Ix (σ:=σ) (uT hl)];exact hc
  | true =>
    obtain ⟨hg,hW⟩:=hW
    unfold wG at hW
    split at hW
    · rename_i f args fD cO
      split at hW
      · rename_i g bJ he
        obtain ⟨cU,D,res,D',h1,h2,h3,h4,h5,h6,h7⟩:=hW
        refine⟨res,σ.aa.set hh D',?_,h7,fun e2 K2 hl hK=>⟨hg,?_⟩⟩
        · unfold Cj gK
          simp only[if_true]
          intro id cT
          rw[List.getElem?_set,if_neg (Ne.symm cT)]
        · unfold wG
          simp only[cO]
          have hx:=uT (os:=σ.aa) hl
          have e1:ev ⟨e2,σ.aa⟩ f=.fn g bJ:=by rw[← he];exact hx f (by simp[cO,Op.operands,Call.operands])
          have e3:args.toList.map (ev ⟨e2,σ.aa⟩)=args.toList.map (ev σ):=qC fun y hy=>hx y (by simp only[cO,Op.operands,Call.operands,zF,dh];exact .inr hy)
          simp only[e1,e3]
          exact⟨cU,D,res,D',h1,h2,h3,h4,h5,h6,hK⟩
      · exact hW.elim
    · exact hW.elim
theorem abr {o:Oper} {σ:St} {K:St→Prop} (hc:cls o.op≤2) (hW:bb P o σ K) :
    ∃ v,K (σ.put o.dst v)∧∀ (σ2:St) (K2:St→Prop),(∀ x∈o.op.operands.toList,ev σ2 x=ev σ x)→(∀ x∈o.op.operands.toList,∀ id,su (ev σ x)=some id→iR (cls o.op) σ.aa[id]? σ2.aa[id]?)→K2 (σ2.put o.dst v)→bb P o σ2 K2:=by
  unfold bb at hW ⊢
  split at hW
  · rename_i f args fD cO
    rw[cO] at hc
    simp[cls] at hc
  · rename_i r m args fD cO
    rw[cO] at hc
    simp[cls] at hc
  · rename_i b8
    obtain ⟨v,h2,h3⟩:=ND hc hW
    refine⟨v,h2,fun σ2 K2 hx ho hK=>?_⟩
    exact h3 σ2 K2 hx (ho) hK
theorem Pb {q:Bool} {o:Oper} {σ:St} {K:St→Prop} (hc:fM q o≤2) (hW:lB q P o σ K) :
    ∃ v,K (σ.put o.dst v)∧∀ (σ2:St) (K2:St→Prop),(∀ x∈o.op.operands.toList,ev σ2 x=ev σ x)→(∀ x∈o.op.operands.toList,∀ id,su (ev σ x)=some id→iR (fM q o) σ.aa[id]? σ2.aa[id]?)→K2 (σ2.put o.dst v)→lB q P o σ2 K2:=by
  cases q with
  | false=>exact abr hc hW
  | true =>
    unfold lB at hW ⊢
    simp only at hW ⊢
    split at hW
    · rename_i f args fD cO
      simp only[cO]
      split at hW
      · rename_i g bJ he
        obtain ⟨res,h1,h2,h3,h4⟩:=hW
        refine⟨res,h4,fun σ2 K2 hx _ hK=>?_⟩
        have e1:ev σ2 f=.fn g bJ:=by rw[← he];exact hx f (by simp[Op.operands,Call.operands])
        have e3:args.toList.map (ev σ2)=args.toList.map (ev σ):=qC fun y hy=>hx y (by simp only[Op.operands,Call.operands,zF,dh];exact .inr hy)
        simp only[e1,e3]
        exact⟨res,h1,h2,h3,hK⟩
      · exact hW.elim
    · rename_i t a cO
      obtain ⟨x,h1,h2⟩:=Hw hW
      refine⟨x,h1,fun σ2 K2 hx _ hK=>?_⟩
      rw[hx a (by simp[cO,Op.operands])]
      exact h2 _ K2 hK
    · exact hW.elim
theorem abt {ops:Array Oper} {q:Bool} {o:Oper} {σ:St} {K:St→Prop} (hc:fM q o≤2) (hW:dS P ops q o K σ) :
    ∃ v,K (σ.put o.dst v)∧∀ (σ2:St) (K2:St→Prop),(∀ t∈o.looksAt ops,σ2.env t=σ.env t)→(∀ x∈o.op.operands.toList,∀ id,su (ev σ x)=some id→iR (fM q o) σ.aa[id]? σ2.aa[id]?)→K2 (σ2.put o.dst v)→dS P ops q o K2 σ2:=by
  unfold dS at hW ⊢
  cases hg:o.guard with
  | none =>
    simp only[hg] at hW
    obtain ⟨v,h2,h3⟩:=Pb hc hW
    exact⟨v,h2,fun σ2 K2 hl ho hK=>h3 σ2 K2 (uT (e2:=σ2.env) (os:=σ2.aa) hl) ho hK⟩
  | some jw =>
    obtain ⟨j,want⟩:=jw
    simp only[hg] at hW
    cases eu:(ops[j]?).bind (·.dst) with
    | none=>simp[eu] at hW
    | some d =>
      simp only[eu] at hW
      split at hW
      · rename_i b he
        by_cases ij:b=want
        · obtain ⟨v,h2,h3⟩:=Pb hc (hW.1 ij)
          refine⟨v,h2,fun σ2 K2 hl ho hK=>?_⟩
          have:σ2.env d=.lit (.bool b):=by rw[hl d (uU hg eu)];exact he
          simp only[eu,this]
          exact⟨fun _=>h3 σ2 K2 (uT (e2:=σ2.env) (os:=σ2.aa) hl) ho hK,fun hn=>absurd ij hn⟩
        · refine⟨.lit (.tuple #[]),hW.2 ij,fun σ2 K2 hl ho hK=>?_⟩
          have:σ2.env d=.lit (.bool b):=by rw[hl d (uU hg eu)];exact he
          simp only[eu,this]
          exact⟨fun hn=>absurd hn ij,fun _=>hK⟩
      · rename_i vs he
        refine⟨.lit (.tuple #[]),hW.2,fun σ2 K2 hl ho hK=>?_⟩
        have:σ2.env d=.lit (.tuple vs):=by rw[hl d (uU hg eu)];exact he
        simp only[eu,this]
        exact⟨hW.1,hK⟩
      · exact hW.elim
theorem Pd {ops:Array Oper} {hh:Nat} {q dc:Bool} {o:Oper} {σ:St} {K:St→Prop} (hc:gK q dc o≤2) (hW:j3 P ops hh q dc o K σ) :
    ∃ v,K (σ.put o.dst v)∧∀ (σ2:St) (K2:St→Prop),(∀ t∈o.looksAt ops,σ2.env t=σ.env t)→(∀ (id:Nat),id≠hh→iR (gK q dc o) σ.aa[id]? σ2.aa[id]?)→K2 (σ2.put o.dst v)→j3 P ops hh q dc o K2 σ2:=by
  cases dc with
  | true=>simp[gK] at hc
  | false =>
    obtain ⟨hk,hW⟩:=hW
    have kv:fM q o≤2:=by simpa [gK] using hc
    obtain ⟨v,h1,h2⟩:=abt kv hW
    refine⟨v,h1,fun σ2 K2 hl ho hK=>⟨?_,h2 σ2 K2 hl (fun x hx id hp=>?_) hK⟩⟩
    · unfold dZ at hk ⊢
      rw[Ix (σ:=σ) (uT (e2:=σ2.env) (os:=σ2.aa) hl)];exact hk
    · have cp:∀ id,id≠hh→iR (fM q o) σ.aa[id]? σ2.aa[id]?:=by simpa [gK] using ho
      by_cases h0:fM q o=0
      · rw[h0];simp[iR]
      · refine cp id fun e=>?_
        subst e
        unfold fM at h0 kv
        split at h0
        · omega
        · rename_i hq
          simp only[hq] at kv
          have Ao:q=false:=by simpa using hq
          subst Ao
          unfold dZ at hk
          have Oq:cls o.op≤2:=by simpa using kv
          have h3:decide (3≤cls o.op)=false:=decide_eq_false (by omega)
          have h4:(cls o.op == 0)=false:=by simpa using h0
          rw[h3,h4] at hk
          simp only[lA] at hk
          exact Pa hk x hx hp
def E5 (ci ck:Nat):Bool:=zU ci ck || (decide (ci≤2) && ck == 6)
theorem abu {hh ci ck:Nat} (h:(ci == 0 || (ci == 1 && decide (ck≤4)) || (ci == 2 && decide (ck≤3)) || (decide (ci≤2) && ck == 6))=true) {a b:List Ob} (he:Cj hh ck a b) (id:Nat) (cT:id≠hh):iR ci a[id]? b[id]?:=by
  unfold Cj at he
  split at he
  · rename_i h6
    subst h6
    rw[he id cT]
    unfold iR
    split
    · trivial
    · split
      · intro o ho;exact⟨o,ho,x7 o⟩
      · intro o ho;exact ho
  · rename_i h6
    refine NJ ?_ he id
    have:(ck == 6)=false:=by simpa using h6
    rw[this] at h
    simpa using h
theorem abv {ops:Array Oper} {hh:Nat} {qi qk di dk:Bool} {oi ok:Oper} (ha:oi.apart ops ok=true) (hi:gK qi di oi≤2)
    (hc:(gK qi di oi == 0 || (gK qi di oi == 1 && decide (gK qk dk ok≤4)) || (gK qi di oi == 2 && decide (gK qk dk ok≤3)) || (decide (gK qi di oi≤2) && gK qk dk ok == 6))=true) {σ:St} {K:St→Prop}
    (h:j3 P ops hh qi di oi (j3 P ops hh qk dk ok K) σ):j3 P ops hh qk dk ok (j3 P ops hh qi di oi K) σ:=by
  obtain ⟨a1,a2,a3⟩:=Oper.apart_spec ha
  obtain ⟨v,h1,run⟩:=Pd hi h
  obtain ⟨vk,os,x8,h2,BJ⟩:=E4 h1
  rw[En] at x8 BJ
  refine BJ σ.env _ (fun t ht=>(wj fun d hd e=>a1 d hd (e ▸ ht)).symm) ?_
  refine run _ _ (fun t ht=>?_) (fun id cT=>?_) ?_
  · rw[wj fun d hd e=>a3 d hd (e ▸ ht)]
  · rw[En];exact abu hc x8 id cT
  · rw[Eo] at h2
    rw[Em (fun d hd e=>a2 d e hd)]
    exact h2
theorem abw {ops:Array Oper} {hh:Nat} {qi qk di dk:Bool} {oi ok:Oper} (ha:oi.apart ops ok=true) (hk:gK qk dk ok=0) {σ:St} {K:St→Prop}
    (h:j3 P ops hh qi di oi (j3 P ops hh qk dk ok K) σ):j3 P ops hh qk dk ok (j3 P ops hh qi di oi K) σ:=by
  obtain ⟨a1,a2,a3⟩:=Oper.apart_spec ha
  obtain ⟨vi,os,x8,h1,run⟩:=E4 h
  obtain ⟨vk,h2,Hx⟩:=Pd (by omega) h1
  refine Hx σ _ (fun t ht=>(wj (σ:=⟨σ.env,os⟩) fun d hd e=>a1 d hd (e ▸ ht)).symm) (fun id _=>by rw[hk];simp[iR]) ?_
  rw[NI]
  refine run _ _ (fun t ht=>wj fun d hd e=>a3 d hd (e ▸ ht)) ?_
  rw[Eo,Em (fun d hd e=>a2 d e hd)]
  exact h2
theorem abx {ops:Array Oper} {hh:Nat} {qi qk di dk:Bool} {oi ok:Oper} (ha:oi.apart ops ok=true) (hc:E5 (gK qi di oi) (gK qk dk ok)=true) {σ:St} {K:St→Prop}
    (h:j3 P ops hh qi di oi (j3 P ops hh qk dk ok K) σ):j3 P ops hh qk dk ok (j3 P ops hh qi di oi K) σ:=by
  by_cases hk:gK qk dk ok=0
  · exact abw ha hk h
  · have kv:(gK qi di oi == 0 || (gK qi di oi == 1 && decide (gK qk dk ok≤4)) || (gK qi di oi == 2 && decide (gK qk dk ok≤3)) || (decide (gK qi di oi≤2) && gK qk dk ok == 6))=true:=by
      simp only[E5,zU,jE,a7,beq_iff_eq,decide_eq_true_eq] at hc ⊢
      rcases hc with (((h | h) | h) | h) | h
      · exact .inl (.inl (.inl h))
      · exact absurd h hk
      · exact .inl (.inl (.inr h))
      · exact .inl (.inr h)
      · exact .inr h
    refine abv ha ?_ kv h
    simp only[jE,a7,beq_iff_eq,decide_eq_true_eq] at kv
    omega
def gp (P:Program) (ops:Array Oper) (hh:Nat) (qs ds:List Nat) (i:Nat) (K:St→Prop) (σ:St):Prop :=
  match ops[i]? with
  | none=>K σ
  | some o=>j3 P ops hh (qs.contains i) (ds.contains i) o K σ
def tP (P:Program) (ops:Array Oper) (hh:Nat) (qs ds:List Nat) (K:St→Prop):Nat→Array Bool→St→Prop
  | 0,aR,σ=>Region.ready .any ops aR=[]∧K σ
  | n+1,aR,σ=>(Region.ready .any ops aR=[]→K σ)∧∀ i∈Region.ready .any ops aR,gp P ops hh qs ds i (tP P ops hh qs ds K n (aR.setIfInBounds i true)) σ
theorem aby {ops:Array Oper} {hh:Nat} {q dc:Bool} {o:Oper} {σ:St} {K K2:St→Prop} (hk:∀ s,K s→K2 s) (h:j3 P ops hh q dc o K σ):j3 P ops hh q dc o K2 σ:=by
  obtain ⟨v,os,_,h2,run⟩:=E4 h
  exact run σ.env K2 (fun _ _=>rfl) (hk _ h2)
theorem abz {ops:Array Oper} {hh:Nat} {q dc:Bool} {o:Oper} {σ:St} {K:St→Prop} (h:j3 P ops hh q dc o K σ) :∃s,K s:=by
  obtain ⟨v,os,_,h2,run⟩:=E4 h
  exact⟨_,h2⟩
theorem wH {ops:Array Oper} {hh:Nat} {qs ds:List Nat} {i:Nat} {σ:St} {K K2:St→Prop} (hk:∀ s,K s→K2 s) (h:gp P ops hh qs ds i K σ):gp P ops hh qs ds i K2 σ:=by
  unfold gp at h ⊢
  split at h
  · exact hk _ h
  · exact aby hk h
theorem abA {ops:Array Oper} {hh:Nat} {qs ds:List Nat} {i:Nat} {σ:St} {K:St→Prop} (h:gp P ops hh qs ds i K σ) :∃s,K s:=by
  unfold gp at h
  split at h
  · exact⟨_,h⟩
  · exact abz h
theorem Iy {os:List Ob} {γ0:Cx} {ops:Array Oper} {hh:Nat} {qs ds:List Nat} (hd:∀ o∈ops.toList,∀ d,o.dst=some d→d<N) {K:St→Prop} {Q:Exit→Act→World→Prop}
    (hQ:∀ σ' a' w',K σ'→gF N os γ0 σ' a' w'→Q .normal a' w'):∀ (n:Nat) (aR:Array Bool) (σ:St) (a:Act) (w:World),tP P ops hh qs ds K n aR σ→gF N os γ0 σ a w→wpAny P .any ops Q n aR a w
  | 0,aR,σ,a,w,h,aC=>⟨h.1,hQ _ _ _ h.2 aC⟩
  | n+1,aR,σ,a,w,h,aC=>by
    refine⟨fun hr=>hQ _ _ _ (h.1 hr) aC,fun i hi=>?_⟩
    have:=h.2 i hi
    unfold gp at this
    split at this
    · rename_i ax
      unfold wpOp
      simp only[ax]
      exact Iy hd hQ n _ _ _ _ this aC
    · rename_i o ax
      exact abq hd ax this aC fun σ' a' w' hK e7=>Iy hd hQ n _ _ _ _ hK e7
theorem abB {id:Nat} {ops:Array Oper} {Q:Exit→St→Prop} (hh:Nat) (qs ds:List Nat) (hm:P.follows .mixedOrders=true) (hd:gz N ops=true)
    (h:tP P ops hh qs ds (Q .normal) ops.size (xK ops.size false) σ):W P N n0 (.region id ops true) Q σ:=by
  intro os γ0 a w _ aC
  refine wp_region_any hm ?_
  exact Iy (qP hd) (K:=Q .normal) (fun σ' a' w' hK e7=>⟨σ',hK,e7⟩) _ _ _ _ _ h aC.drawn
theorem abC {ops:Array Oper} {hh:Nat} {qs ds:List Nat} {K:St→Prop} {i:Nat} {o:Oper} (hi:ops[i]?=some o) (D:List Nat) (ZJ:i∈D)
    (hD:∀ j∈D,j=i∨∃ oj,ops[j]?=some oj∧∃ e∈oj.after,Region.binds .any e=true∧e.on∈D):∀ (fuel:Nat) (aR:Array Bool) (σ:St),(∀ j∈D,aR.getD j true=false) →
      i∈Region.ready .any ops aR →
      (∀ j oj,ops[j]?=some oj→aR.getD j true=false→j ∉ D→o.apart ops oj=true∧E5 (gK (qs.contains i) (ds.contains i) o) (gK (qs.contains j) (ds.contains j) oj)=true) →
      gp P ops hh qs ds i (tP P ops hh qs ds K fuel (aR.setIfInBounds i true)) σ→tP P ops hh qs ds K (fuel+1) aR σ:=by
  intro fuel
  induction fuel with
  | zero =>
    intro aR σ hu hr p9 h
    refine⟨fun e=>by rw[e] at hr;simp at hr,fun k hk=>?_⟩
    by_cases ik:k=i
    · subst ik;exact h
    · obtain ⟨s,hs⟩:=abA h
      have:=ready_mono hk ik
      rw[hs.1] at this
      simp at this
  | succ m ih =>
    intro aR σ hu hr p9 h
    refine⟨fun e=>by rw[e] at hr;simp at hr,fun k hk=>?_⟩
    by_cases ik:k=i
    · subst ik;exact h
    · have BL:=mem_ready.1 hk
      obtain ⟨eM,ok,aC,dT⟩:=BL
      have uV:k ∉ D:=by
        intro uV
        rcases hD k uV with e | ⟨oj,kX,e,he,hb,x9⟩
        · exact ik e
        · rw[aC] at kX
          simp only[Option.some.injEq] at kX
          subst kX
          have h1:=dT e he hb
          have h2:=hu e.on x9
          rw[Array.getD_eq_getD_getElem?] at h1 h2
          cases hx:aR[e.on]? with
          | none=>rw[hx] at h1;simp at h1
          | some b=>rw[hx] at h1 h2;simp at h1 h2;rw[h1] at h2;simp at h2
      obtain ⟨ha,hc⟩:=p9 k ok aC eM uV
      have h1:gp P ops hh qs ds i (gp P ops hh qs ds k (tP P ops hh qs ds K m ((aR.setIfInBounds i true).setIfInBounds k true))) σ :=
        wH (fun s hs=>hs.2 k (ready_mono hk ik)) h
      have h2:gp P ops hh qs ds k (gp P ops hh qs ds i (tP P ops hh qs ds K m ((aR.setIfInBounds i true).setIfInBounds k true))) σ:=by
        unfold gp at h1 ⊢
        simp only[hi,aC] at h1 ⊢
        exact abx ha hc h1
      refine wH (fun s hs=>?_) h2
      refine ih (aR.setIfInBounds k true) s (fun j hj=>?_) (ready_mono hr (Ne.symm ik)) (fun j oj kX hl qQ=>?_) ?_
      · have b8:k≠j:=fun e=>uV (by rw[e];exact hj)
        rw[getD_set_ne _ b8];exact hu j hj
      · refine p9 j oj kX ?_ qQ
        by_cases wo:k=j
        · subst wo;exact eM
        · rwa [getD_set_ne _ wo] at hl
      · rw[Array.setIfInBounds_comm _ _ (Ne.symm ik)] at hs
        exact hs
def Iz (ops:Array Oper) (qs ds:List Nat) (aR:Array Bool) (i:Nat) (D:List Nat):Bool :=
  match ops[i]? with
  | none=>false
  | some o =>
    D.contains i && D.all (fun j=>j == i || match ops[j]? with | some oj=>oj.after.any (fun e=>Region.binds .any e && D.contains e.on) | none=>false) &&
    D.all (fun j=>!aR.getD j true) && o.after.all (fun e=>!Region.binds .any e || aR.getD e.on false) &&
    (bn ops.size).all fun j=>D.contains j || aR.getD j true || match ops[j]? with | some oj=>o.apart ops oj && E5 (gK (qs.contains i) (ds.contains i) o) (gK (qs.contains j) (ds.contains j) oj) | none=>true
theorem abD {ops:Array Oper} {hh:Nat} {qs ds:List Nat} {K:St→Prop} {i:Nat} {D:List Nat} {fuel:Nat} {aR:Array Bool} (h:Iz ops qs ds aR i D=true)
    (hs:gp P ops hh qs ds i (tP P ops hh qs ds K fuel (aR.setIfInBounds i true)) σ):tP P ops hh qs ds K (fuel+1) aR σ:=by
  unfold Iz at h
  cases hi:ops[i]? with
  | none=>simp[hi] at h
  | some o =>
    simp only[hi,a7,eW,pW,jE,beq_iff_eq,jh] at h
    obtain ⟨⟨⟨⟨h1,h2⟩,h3⟩,h4⟩,h5⟩:=h
    refine abC hi D h1 (fun j hj=>?_) fuel aR σ h3 ?_ ?_ hs
    · rcases h2 j hj with h | h
      · exact .inl h
      · right
        split at h
        · rename_i oj kX
          rw[Array.any_eq_true'] at h
          obtain ⟨e,he,hb⟩:=h
          simp only[a7,pW] at hb
          exact⟨oj,kX,e,he,hb.1,hb.2⟩
        · simp at h
    · rw[mem_ready]
      refine⟨h3 i h1,o,hi,fun e he hb=>?_⟩
      rw[Array.all_eq_true'] at h4
      have:=h4 e he
      simpa [hb] using this
    · intro j oj kX hl qQ
      have hj:j<ops.size:=(pk.1 kX).1
      rcases h5 j (og.2 hj) with (h | h) | h
      · exact absurd h qQ
      · rw[hl] at h;simp at h
      · simpa [kX] using h
def PT.oJ (ops:Array Oper) (qs ds:List Nat):PT→Nat→Array Bool→Bool
  | .nil,n,aR=>n == 0 && (Region.ready .any ops aR).isEmpty
  | .take _ _,0,_=>false
  | .take i t,n+1,aR=>Iz ops qs ds aR i (Hz ops i) && t.oJ ops qs ds n (aR.setIfInBounds i true)
  | .both _ _ _ _,0,_=>false
  | .both i t j u,n+1,aR=>(Region.ready .any ops aR == [i,j]) && t.oJ ops qs ds n (aR.setIfInBounds i true) && u.oJ ops qs ds n (aR.setIfInBounds j true)
  | .three _ _ _ _ _ _,0,_=>false
  | .three i t j u k v,n+1,aR=>(Region.ready .any ops aR == [i,j,k]) && t.oJ ops qs ds n (aR.setIfInBounds i true) && u.oJ ops qs ds n (aR.setIfInBounds j true) && v.oJ ops qs ds n (aR.setIfInBounds k true)
def mF (P:Program) (ops:Array Oper) (hh:Nat) (qs ds:List Nat):PT→(St→Prop)→St→Prop
  | .nil,K,σ=>K σ
  | .take i t,K,σ=>gp P ops hh qs ds i (mF P ops hh qs ds t K) σ
  | .both i t j u,K,σ=>gp P ops hh qs ds i (mF P ops hh qs ds t K) σ∧gp P ops hh qs ds j (mF P ops hh qs ds u K) σ
  | .three i t j u k v,K,σ=>gp P ops hh qs ds i (mF P ops hh qs ds t K) σ∧gp P ops hh qs ds j (mF P ops hh qs ds u K) σ∧gp P ops hh qs ds k (mF P ops hh qs ds v K) σ
theorem yC {ops:Array Oper} {hh:Nat} {qs ds:List Nat} {K:St→Prop}:∀ (t:PT) (n:Nat) (aR:Array Bool) (σ:St),t.oJ ops qs ds n aR=true→mF P ops hh qs ds t K σ→tP P ops hh qs ds K n aR σ
  | .nil,n,aR,σ,h,hp=>by
    simp only[PT.oJ,a7,beq_iff_eq,List.isEmpty_iff] at h
    obtain ⟨rfl,h⟩:=h
    exact⟨h,hp⟩
  | .take _ _,0,_,_,h,_=>by simp[PT.oJ] at h
  | .take i t,n+1,aR,σ,h,hp=>by
    simp only[PT.oJ,a7] at h
    exact abD h.1 (wH (fun s hs=>yC t n _ s h.2 hs) hp)
  | .both _ _ _ _,0,_,_,h,_=>by simp[PT.oJ] at h
  | .both i t j u,n+1,aR,σ,h,hp=>by
    simp only[PT.oJ,a7,beq_iff_eq] at h
    obtain ⟨⟨h1,h2⟩,h3⟩:=h
    refine⟨fun e=>by rw[h1] at e;simp at e,fun k hk=>?_⟩
    rw[h1] at hk
    simp only[bW,lX,or_false] at hk
    rcases hk with rfl | rfl
    · exact wH (fun s hs=>yC t n _ s h2 hs) hp.1
    · exact wH (fun s hs=>yC u n _ s h3 hs) hp.2
  | .three _ _ _ _ _ _,0,_,_,h,_=>by simp[PT.oJ] at h
  | .three i t j u k v,n+1,aR,σ,h,hp=>by
    simp only[PT.oJ,a7,beq_iff_eq] at h
    obtain ⟨⟨⟨h1,h2⟩,h3⟩,h4⟩:=h
    refine⟨fun e=>by rw[h1] at e;simp at e,fun x hk=>?_⟩
    rw[h1] at hk
    simp only[bW,lX,or_false] at hk
    rcases hk with rfl | rfl | rfl
    · exact wH (fun s hs=>yC t n _ s h2 hs) hp.1
    · exact wH (fun s hs=>yC u n _ s h3 hs) hp.2.1
    · exact wH (fun s hs=>yC v n _ s h4 hs) hp.2.2
theorem Pe {id:Nat} {ops:Array Oper} {Q:Exit→St→Prop} (hh:Nat) (qs ds:List Nat) (t:PT) (hm:P.follows .mixedOrders=true) (hd:gz N ops=true) (ht:t.oJ ops qs ds ops.size (xK ops.size false)=true)
    (h:mF P ops hh qs ds t (Q .normal) σ):W P N n0 (.region id ops true) Q σ :=
  abB hh qs ds hm hd (yC t _ _ σ ht h)
theorem Pf {ops:Array Oper} {hh:Nat} {qs ds:List Nat} {K:St→Prop}:mF P ops hh qs ds .nil K σ=K σ:=rfl
theorem Pg {ops:Array Oper} {hh:Nat} {qs ds:List Nat} {i:Nat} {t:PT} {K:St→Prop}:mF P ops hh qs ds (.take i t) K σ=gp P ops hh qs ds i (mF P ops hh qs ds t K) σ:=rfl
theorem Ph {ops:Array Oper} {hh:Nat} {qs ds:List Nat} {i j k:Nat} {t u v:PT} {K:St→Prop}:mF P ops hh qs ds (.three i t j u k v) K σ=(gp P ops hh qs ds i (mF P ops hh qs ds t K) σ∧gp P ops hh qs ds j (mF P ops hh qs ds u K) σ∧gp P ops hh qs ds k (mF P ops hh qs ds v K) σ):=rfl
theorem Pj {ops:Array Oper} {hh:Nat} {qs ds:List Nat} {i j:Nat} {t u:PT} {K:St→Prop}:mF P ops hh qs ds (.both i t j u) K σ=(gp P ops hh qs ds i (mF P ops hh qs ds t K) σ∧gp P ops hh qs ds j (mF P ops hh qs ds u K) σ):=rfl
theorem Pl {ops:Array Oper} {hh:Nat} {q:Bool} {o:Oper} {K:St→Prop}:j3 P ops hh q true o K σ=(o.guard=none∧wG hh P o σ K):=rfl
theorem Pm {ops:Array Oper} {hh:Nat} {q:Bool} {o:Oper} {K:St→Prop}:j3 P ops hh q false o K σ=(dZ hh q o σ=true∧dS P ops q o K σ):=rfl
def Pn (P:Program) (hh:Nat) (dst:Option Tmp) (args:List AV) (K:St→Prop) (σ:St):AV→Prop
  | .fn g bJ=>Ci P hh g (args++bJ) dst K σ
  | _=>False
theorem Po {hh:Nat} {dst:Option Tmp} {args:List AV} {K:St→Prop} {g:FuncId} {bJ:List AV}:Pn P hh dst args K σ (.fn g bJ)=Ci P hh g (args++bJ) dst K σ:=rfl
section
variable {dst:Option Tmp} {tt:TypeId} {p:String} {af:Array Edge} {g:Option (Nat × Bool)} {K:St→Prop} {hh:Nat}
theorem Pp (f:Operand) (args:Array Operand) (fD:Array TypeId):wG hh P ⟨dst,.call ⟨.value f,args,fD⟩,tt,p,af,g⟩ σ K=Pn P hh dst (args.toList.map (ev σ)) K σ (ev σ f):=by
  simp only[wG]
  cases ev σ f<;>rfl
theorem Pq {o:Oper}:dZ hh true o σ=true:=by simp[dZ]
theorem Ps (t:TypeId) (a:Operand):dZ hh false ⟨dst,.load t a,tt,p,af,g⟩ σ=nV hh (ev σ a):=by simp[dZ,cls,Op.operands,re]
theorem Pt (t:TypeId) (a:Operand) (f:Nat):dZ hh false ⟨dst,.fieldAddr t a f,tt,p,af,g⟩ σ=nV hh (ev σ a):=by simp[dZ,cls,Op.operands,re]
theorem Pu (a:Operand):dZ hh false ⟨dst,.nilCheck a,tt,p,af,g⟩ σ=nV hh (ev σ a):=by simp[dZ,cls,Op.operands,re]
theorem Pv (t:TypeId) (a i:Operand):dZ hh false ⟨dst,.indexAddr t a i,tt,p,af,g⟩ σ=(nV hh (ev σ a) && nV hh (ev σ i)):=by simp[dZ,cls,Op.operands,re]
theorem Px (x:Operand) (fD:Array TypeId):dZ hh false ⟨dst,.call ⟨.builtin .len,#[x],fD⟩,tt,p,af,g⟩ σ=nV hh (ev σ x):=by simp[dZ,cls,Op.operands,Call.operands,re]
theorem mG {o:Oper} (h:(cls o.op == 0 || decide (3≤cls o.op))=true):dZ hh false o σ=true:=by simp only[dZ,lA,h,Bool.true_or]
theorem Py (id r c:Nat):nV hh (.ptr id r c) = !(id == hh):=rfl
theorem Pz (id a b c:Nat):nV hh (.ref id a b c) = !(id == hh):=rfl
theorem PA (v:Value):nV hh (.lit v)=true:=rfl
theorem PD (s:Nat) (r:List (List AV)):nV hh (.tree s r)=true:=rfl
theorem PE (r:List AV):nV hh (.dz r)=true:=rfl
theorem PG (r:List AV):nV hh (.agg r)=true:=rfl
theorem PH (r:List AV):nV hh (.bM r)=true:=rfl
theorem PI:nV hh .undef=true:=rfl
theorem PJ (x:Operand):dZ hh false ⟨dst,.move x,tt,p,af,g⟩ σ=true:=mG (by rfl)
theorem PL (x:Operand):dZ hh false ⟨dst,.assign x,tt,p,af,g⟩ σ=true:=mG (by rfl)
theorem PN (c a b:Operand):dZ hh false ⟨dst,.pick c a b,tt,p,af,g⟩ σ=true:=mG (by rfl)
theorem PO (op:BinOp) (t:TypeId) (x y:Operand) (yt:TypeId):dZ hh false ⟨dst,.binOp op t x y yt,tt,p,af,g⟩ σ=true:=mG (by rfl)
theorem PQ (op:UnOp) (t:TypeId) (x:Operand):dZ hh false ⟨dst,.unOp op t x,tt,p,af,g⟩ σ=true:=mG (by rfl)
theorem PR (fn:Fn) (a b:Array Operand):dZ hh false ⟨dst,.makeFunc fn a b,tt,p,af,g⟩ σ=true:=mG (by rfl)
theorem PS (s:TypeId) (x:Operand) (f:Nat):dZ hh false ⟨dst,.field s x f,tt,p,af,g⟩ σ=true:=mG (by rfl)
theorem PU (x:Operand) (i:Nat):dZ hh false ⟨dst,.extract x i,tt,p,af,g⟩ σ=true:=mG (by rfl)
theorem PV (t:TypeId) (parts:Array (Nat × Operand)):dZ hh false ⟨dst,.build t parts,tt,p,af,g⟩ σ=true:=mG (by rfl)
theorem PW (e:TypeId):dZ hh false ⟨dst,.alloc e,tt,p,af,g⟩ σ=true:=mG (by rfl)
theorem PX (e:TypeId) (x:Operand):dZ hh false ⟨dst,.box e x,tt,p,af,g⟩ σ=true:=mG (by rfl)
theorem PY (t:TypeId) (l c:Operand):dZ hh false ⟨dst,.makeSlice t l c,tt,p,af,g⟩ σ=true:=mG (by rfl)
theorem PZ (t:TypeId) (len:Nat) (parts:Array (Nat × Operand)):dZ hh false ⟨dst,.buildSlice t len parts,tt,p,af,g⟩ σ=true:=mG (by rfl)
theorem P0 (t:TypeId) (a x:Operand):dZ hh false ⟨dst,.store t a x,tt,p,af,g⟩ σ=true:=mG (by rfl)
theorem P1 (f:Operand) (args:Array Operand) (fD:Array TypeId):dZ hh false ⟨dst,.call ⟨.value f,args,fD⟩,tt,p,af,g⟩ σ=true:=mG (by rfl)
theorem P2 (args:Array Operand) (fD:Array TypeId):dZ hh false ⟨dst,.call ⟨.builtin .append,args,fD⟩,tt,p,af,g⟩ σ=true:=mG (by rfl)
theorem P3 (args:Array Operand) (fD:Array TypeId):dZ hh false ⟨dst,.call ⟨.builtin .min,args,fD⟩,tt,p,af,g⟩ σ=true:=mG (by rfl)
theorem P4 (args:Array Operand) (fD:Array TypeId):dZ hh false ⟨dst,.call ⟨.builtin .max,args,fD⟩,tt,p,af,g⟩ σ=true:=mG (by rfl)
end
theorem Hc:type_of% @Pf∧type_of% @Pg∧type_of% @Ph∧type_of% @Pj∧type_of% @Pl∧type_of% @Pm∧type_of% @Po∧type_of% @Pp∧type_of% @Pq∧type_of% @Ps∧type_of% @Pt∧type_of% @Pu∧type_of% @Pv∧type_of% @Px∧type_of% @Py∧type_of% @Pz∧type_of% @PA∧type_of% @PD∧type_of% @PE∧type_of% @PG∧type_of% @PH∧type_of% @PI∧type_of% @PJ∧type_of% @PL∧type_of% @PN∧type_of% @PO∧type_of% @PQ∧type_of% @PR∧type_of% @PS∧type_of% @PU∧type_of% @PV∧type_of% @PW∧type_of% @PX∧type_of% @PY∧type_of% @PZ∧type_of% @P0∧type_of% @P1∧type_of% @P2∧type_of% @P3∧type_of% @P4 :=
  ⟨@Pf,@Pg,@Ph,@Pj,@Pl,@Pm,@Po,@Pp,@Pq,@Ps,@Pt,@Pu,@Pv,@Px,@Py,@Pz,@PA,@PD,@PE,@PG,@PH,@PI,@PJ,@PL,@PN,@PO,@PQ,@PR,@PS,@PU,@PV,@PW,@PX,@PY,@PZ,@P0,@P1,@P2,@P3,@P4⟩
theorem Ck {hh:Nat} {f:FuncId} {args cU:List AV} {D D':Ob} {dst:Option Tmp} {K:St→Prop} {res:AV} (h:ao P f cU [D] res [D']) (h1:wF D=true) (h2:wF D'=true) (h3:σ.aa[hh]?=some D) (h4:gy res=true)
    (h5:iK (O' hh) cU args) (hK:K ((⟨σ.env,σ.aa.set hh D'⟩:St).put dst res)):Ci P hh f args dst K σ:=⟨cU,D,res,D',h,h1,h2,h3,h4,h5,hK⟩
theorem wI {P:Program} {N n0:Nat} {σ:St} {Q:Exit→St→Prop} (n:Nat) {id:Nat} {ops:Array Oper} (hd:gz N ops=true) (o:Oper) (ho:ops[n]?=some o)
    (h:∀ K:St→Prop,(∀ s,Q .normal s→K s)→opsL P ops (ops.toList.take n) (tM P o (opsL P ops (ops.toList.drop (n+1)) K)) σ):W P N n0 (.region id ops false) Q σ:=by
  intro os γ0 a w hn aC
  refine wp_region ?_
  have HO:n<ops.size:=(pk.1 ho).1
  have e:bn ops.size=lU 0 (ops.toList.take n).length++(n::lU (n+1) (ops.toList.drop (n+1)).length):=by
    rw[List.range_eq_range',← List.range'_succ]
    have:=List.range'_append (s:=0) (m:=n) (n:=(ops.toList.drop (n+1)).length+1) (step:=1)
    simp only[Nat.zero_add,Nat.one_mul] at this
    rw[show (ops.toList.take n).length=n by simp;omega,this]
    congr 1
    simp;omega
  rw[e]
  refine xW _ a w ?_
  refine sc (qP hd) (K:=tM P o (opsL P ops (ops.toList.drop (n+1)) (Q .normal))) (fun σ' a' w' hk e7=>?_) (ops.toList.take n) 0 σ a w (fun k hk=>?_) (h _ (fun _ h=>h)) aC
  · show wpOps P ops _ _ a' w'
    rw[wpOps_cons]
    unfold wpOp
    simp only[ho]
    have hw:Region.wanted o (yielded ops a'.tmps)=true:=by simp[Region.wanted,hk.1]
    rw[if_pos hw]
    left
    refine Io hk e7 (qP hd o (iy (by simpa using ho))) (fun σ2 a2 w2 bG wJ=>?_)
    refine sc (qP hd) (K:=Q .normal) (fun Cl a3 w3 ma jo=>⟨Cl,ma,jo⟩) (ops.toList.drop (n+1)) (n+1) σ2 a2 w2 (fun k hk=>?_) bG wJ
    rw[List.getElem?_drop]
    simp
  · simp only[List.length_take,Array.length_toList] at hk
    rw[List.getElem?_take_of_lt (by omega)]
    simp
end Go.Am

