import Derived.Test.YtfoopmojjjpapaaGreatX07
import Derived.Laws.StructEq
set_option linter.all false
set_option maxHeartbeats 0
set_option maxRecDepth 20000
open List renaming drop_drop→Jl,take_append_drop→Jb,map_cons→fF,range→aY,contains_iff_mem→uX,mem_filter→xN,mem_range→mN,tail_drop→Fm,getElem?_append_left→er,getElem?_append_right→gN,all_eq_true→e8,mem_cons→a8,mem_of_getElem?→ik,map_congr_left→tI,mem_append→da,isEmpty_iff→OP,not_mem_nil→iJ,range'→nq
open Bool renaming false_eq_true→jd,and_eq_true→a7,eq_iff_iff→nP,not_eq_true'→lg,true_and→iI,false_and→pV,false_or→pP,or_eq_true→kL
open Array renaming getElem?_eq_some_iff→mM,toList_append→AQ,replicate→uW
namespace Go.Am
variable {P:Program}
def ye(P:Program):List Field->Nat->Nat->Bool
 |[],o,n=>o==n
 |f::fs,o,n=>f.offset==o&&ye P fs (o+P.cellsOf f.type) n
def vw(P:Program):Nat->TypeId->Bool
 |0,_=>false
 |d+1,t =>
  match P.underlying t with
  |some (.int .i64)=>P.cellsOf t==1
  | some (.struct fs) => (P.info? t).isSome && !P.stoodInHeld t && ye P fs.toList 0 (P.cellsOf t) && fs.toList.all λf => f.name != "_" && vw P d f.type
  |_=>false
def vz(P:Program)(t:TypeId)(xs:List Int):Value :=
 match P.underlying t with
 |some (.struct _)=>.agg (xs.map (Value.int .i64)).toArray
 |_=>.int .i64 (xs.getD 0 0)
def RK{as bs:List Int}{o c:Nat}(h:as.length=bs.length):as.drop o=bs.drop o↔(as.drop o).take c=(bs.drop o).take c/\as.drop (o+c)=bs.drop (o+c):=by
 constructor
 ·intro e;refine⟨by rw[e],?_⟩;rw[<- Jl,<- Jl,e]
 ·rintro⟨e1,e2⟩;rw[<- Jl,<- Jl]at e2;rw[<- Jb c (as.drop o),<- Jb c (bs.drop o),e1,e2]
def RL(w:World){d:Nat}{t:TypeId}(h:vw P d t=true){as:List Int}{o:Nat}(ho:o+P.cellsOf t<=as.length):
  (part t (as.map (Value.int .i64)).toArray o).run P w=.ok (vz P t ((as.drop o).take (P.cellsOf t))) w:=by
 cases d with
 |zero=>simp[vw]at h
 |succ d =>
  unfold vw at h;cases hu:P.underlying t with
  |none=>simp[hu]at h
  |some k =>
   rw[hu]at h;cases k<;>try(simp at h;done)
   case int q =>
    cases q<;>try(simp at h;done)
    have hc:P.cellsOf t=1:=by simpa using h
    rw[hc]at ho;have hx:((as.map (Value.int .i64)).toArray)[o]?=some (.int .i64 (as.getD o 0)):=by
     have:o<as.length:=CZ;simp[this]
    simp only[part,isAgg,Sem.run_bind,run_underlying hu,Result.andThen_ok,Sem.run_pure,jd,if_false,Sem.run_ite,hx];have:o<as.length:=CZ;simp[vz,hu,hc,this]
   case struct fs =>
    simp only[a7]at h;obtain⟨i,hi⟩:=Option.isSome_iff_exists.1 h.1.1.1;have hs:∀ w,(sizeOf t).run P w=.ok (P.cellsOf t) w:=λw=>by
     simp[sizeOf,typeInfo,Program.cellsOf,hi,run_program]
    simp only[part,isAgg,Sem.run_bind,run_underlying hu,Result.andThen_ok,Sem.run_pure,if_true,Sem.run_ite,hs];simp only[vz,hu];congr 2;simp[List.map_take,List.map_drop]
def RM{D d:Nat}(ih:∀ t,vw P d t=true->∀ (w:World) (as bs:List Int),as.length=P.cellsOf t->bs.length=P.cellsOf t->(Op.equalIn (D+d) t (vz P t as) (vz P t bs)).run P w=.ok (decide (as=bs)) w){as bs:List Int}(hl:as.length=bs.length):
  ∀ (fs : List Field) (o : Nat) (w : World), ye P fs o as.length = true -> (fs.all λf => f.name != "_" && vw P d f.type) = true ->
   o+(fs.map λf=>P.cellsOf f.type).sum=as.length->(Op.eqFields (D+d) (as.map (Value.int .i64)).toArray (bs.map (Value.int .i64)).toArray fs).run P w=.ok (decide (as.drop o=bs.drop o)) w
 |[],o,w,ht,_,hs=>by
  have:o=as.length:=by simpa [ye] using ht
  subst this;have:bs.drop as.length=[]:=List.drop_eq_nil_of_le CZ;simp[Op.eqFields,this]
 |f::fs,o,w,ht,ha,hs=>by
  simp only[ye,a7,beq_iff_eq]at ht;obtain⟨rfl,ht⟩:=ht;simp only[List.all_cons,a7,bne_iff_ne]at ha;simp only[fF,List.sum_cons]at hs;have h1:=RL (as:=as) w ha.1.2 (o:=f.offset) CZ;have h2:=RL (as:=bs) w ha.1.2 (o:=f.offset) CZ;have h3:=ih f.type ha.1.2 w ((as.drop f.offset).take (P.cellsOf f.type)) ((bs.drop f.offset).take (P.cellsOf f.type)) Jo Jo;have h4:=RM ih hl fs (f.offset+P.cellsOf f.type) w ht ha.2 CZ;simp only[Op.eqFields];rw[if_pos ha.1.1];simp only[Sem.run_bind,h1,h2,h3,Result.andThen_ok,Sem.run_ite,Sem.run_pure,h4];by_cases he:(as.drop f.offset).take (P.cellsOf f.type)=(bs.drop f.offset).take (P.cellsOf f.type)
  ·rw[decide_eq_true he];simp only[Bool.not_true,jd,if_false];congr 1;rw[decide_eq_decide,RK (o:=f.offset) (c:=P.cellsOf f.type) hl];simp[he]
  ·rw[decide_eq_false he];simp only[Bool.not_false,if_true];congr 1;rw[eq_comm,decide_eq_false_iff_not,RK (o:=f.offset) (c:=P.cellsOf f.type) hl];exact λh=>he h.1
def RN:∀ (fs:List Field) (o n:Nat),ye P fs o n=true->o+(fs.map λf=>P.cellsOf f.type).sum=n
 |[],o,n,h=>by simpa [ye] using h
 |f::fs,o,n,h=>by
  simp only[ye,a7,beq_iff_eq]at h;have:=RN fs _ n h.2;simp only[fF,List.sum_cons];omega
def RO(D:Nat):∀ (d:Nat) (t:TypeId),vw P d t=true->∀ (w:World) (as bs:List Int),as.length=P.cellsOf t->bs.length=P.cellsOf t->(Op.equalIn (D+d) t (vz P t as) (vz P t bs)).run P w=.ok (decide (as=bs)) w
 |0,t,h=>by simp[vw]at h
 |d+1,t,h=>by
  intro w as bs ha hb;unfold vw at h;cases hu:P.underlying t with
  |none=>simp[hu]at h
  |some k =>
   rw[hu]at h;cases k<;>try(simp at h;done)
   case int q =>
    cases q<;>try(simp at h;done)
    have hc:P.cellsOf t=1:=by simpa using h
    rw[hc]at ha hb
    match as,bs,ha,hb with
    |[a],[b],_,_ =>
     simp only[vz,hu,List.getD_cons_zero];rw[show D+(d+1)=(D+d)+1 from rfl,run_equalIn_int w (D+d) t .i64 .i64 a b hu];congr 1;rw[nP];simp
   case struct fs =>
    simp only[a7,lg]at h;have hf:P.fieldsOf t=fs:=by simp[Program.fieldsOf,hu]
    simp only[vz,hu];rw[show D+(d+1)=(D+d)+1 from rfl,run_equalIn_struct w (D+d) t _ _ (by rw[hf];exact hu) h.1.1.2,hf];have:=RM (D:=D) (RO D d) (as:=as) (bs:=bs) CZ fs.toList 0 w (by rw[ha];exact h.1.2) h.2 (by rw[ha];exact RN _ _ _ h.1.2);simpa using this
def Gs(P:Program)(d:Nat)(t:TypeId)(n:Nat):Bool :=
 (match P.underlying t with|some (.struct _)=>true|_=>false)&&decide (d<=10000)&&vw P d t&&(P.cellsOf t==n)
def vg.of{t:TypeId}(d:Nat){n:Nat}(h:Gs P d t n=true):vg P t n:=by
 intro w as bs ha hb;simp only[Gs,a7,decide_eq_true_eq,beq_iff_eq]at h;obtain⟨⟨⟨h1,hd⟩,h2⟩,h3⟩:=h;have:=RO (10000-d) d t h2 w as bs CZ CZ;rw[Nat.sub_add_cancel hd]at this;cases hu:P.underlying t with
 |none=>rw[hu]at h1;simp at h1
 |some k =>
  cases k<;>rw[hu]at h1<;>try(simp at h1;done)
  simpa only[vz,hu] using this
end Go.Am
namespace Go.Am
variable {P:Program} {N n0:Nat} {σ:St} {Q:Exit->St->Prop}
def uo(o:Oper):Bool :=
 match o.op with
 |.call c=>match c.callee with
  |.value _=>true
  |_=>false
 |_=>false
def Bx(ops:Array Oper):List Nat:=(aY ops.size).filter λi=>match ops[i]? with|some o=>uo o|none=>false
def sM(P:Program)(ops:Array Oper):List Oper->(St->Prop)->St->Prop
 |[],K,σ=>K σ
 |o::r,K,σ=>ew P ops (uo o) o (sM P ops r K) σ
def RP{ops:Array Oper}{K:St->Prop}:sM P ops [] K σ=K σ:=by simp only[sM]
def KR{ops:Array Oper}{o:Oper}{r:List Oper}{K:St->Prop}:sM P ops (o::r) K σ=ew P ops (uo o) o (sM P ops r K) σ:=by simp only[sM]
def afi{ops:Array Oper}{i:Nat}{o:Oper}(h:ops[i]?=some o):(Bx ops).contains i=uo o:=by
 have hi:i<ops.size:=(mM.1 h).1;rw[nP,uX];simp only[Bx,xN,mN,hi,true_and,h]
def KS{ops:Array Oper}{K:St->Prop}:∀ (l:List Oper) (i:Nat) (σ:St),ops.toList.drop i=l->sM P ops l K σ->rn P ops (Bx ops) i l K σ
 |[],i,σ,_,h=>h
 |o::r,i,σ,hl,h=>by
  have hi:ops[i]?=some o:=by
   have:(ops.toList.drop i)[0]?=some o:=by rw[hl];rfl
   simpa using this
  have hr:ops.toList.drop (i+1)=r:=by
   have:=congrArg List.tail hl;simpa [Fm] using this
  rw[Gp,afi hi];rw[KR]at h;exact C9 (λs hs=>KS r (i+1) s hr hs) h
def Gt(ops:Array Oper):Bool:=Gq ops (Bx ops)
def afj{id:Nat}{ops:Array Oper}{y:Code}(hm:P.follows .mixedOrders=true)(hd:fJ N ops=true)(ht:Gt ops=true)(h:∀ K:St->Prop,(∀ s,W P N n0 y Q s->K s)->sM P ops ops.toList K σ):
  W P N n0 (.seq (.region id ops true) y) Q σ :=
 RJ (Bx ops) hm hd ht λK hK=>KS ops.toList 0 σ rfl (h K hK)
def afk{id:Nat}{ops:Array Oper}(hm:P.follows .mixedOrders=true)(hd:fJ N ops=true)(ht:Gt ops=true)(h:∀ K:St->Prop,(∀ s,Q .normal s->K s)->sM P ops ops.toList K σ):
  W P N n0 (.region id ops true) Q σ :=
 Gr (Bx ops) hm hd ht λK hK=>KS ops.toList 0 σ rfl (h K hK)
def wW:List Oper->Bool
 |[]=>false
 |o::r=>uo o||wW r
def By(ops:Array Oper):List Nat:=(aY ops.size).filter λi=>match ops[i]? with|some o=>uo o&&wW (ops.toList.drop (i+1))|none=>false
def sN(P:Program)(ops:Array Oper):List Oper->(St->Prop)->St->Prop
 |[],K,σ=>K σ
 |o::r,K,σ=>ew P ops (uo o&&wW r) o (sN P ops r K) σ
def RQ{ops:Array Oper}{K:St->Prop}:sN P ops [] K σ=K σ:=by simp only[sN]
def KT{ops:Array Oper}{o:Oper}{r:List Oper}{K:St->Prop}:sN P ops (o::r) K σ=ew P ops (uo o&&wW r) o (sN P ops r K) σ:=by simp only[sN]
def afl{ops:Array Oper}{i:Nat}{o:Oper}{r:List Oper}(h:ops[i]?=some o)(hr:ops.toList.drop (i+1)=r):(By ops).contains i=(uo o&&wW r):=by
 have hi:i<ops.size:=(mM.1 h).1;rw[nP,uX];simp only[By,xN,mN,hi,true_and,h,hr]
def KU{ops:Array Oper}{K:St->Prop}:∀ (l:List Oper) (i:Nat) (σ:St),ops.toList.drop i=l->sN P ops l K σ->rn P ops (By ops) i l K σ
 |[],i,σ,_,h=>h
 |o::r,i,σ,hl,h=>by
  have hi:ops[i]?=some o:=by
   have:(ops.toList.drop i)[0]?=some o:=by rw[hl];rfl
   simpa using this
  have hr:ops.toList.drop (i+1)=r:=by
   have:=congrArg List.tail hl;simpa [Fm] using this
  rw[Gp,afl hi hr];rw[KT]at h;exact C9 (λs hs=>KU r (i+1) s hr hs) h
def Gu(ops:Array Oper):Bool:=Gq ops (By ops)
def afm{id:Nat}{ops:Array Oper}{y:Code}(hm:P.follows .mixedOrders=true)(hd:fJ N ops=true)(ht:Gu ops=true)(h:∀ K:St->Prop,(∀ s,W P N n0 y Q s->K s)->sN P ops ops.toList K σ):
  W P N n0 (.seq (.region id ops true) y) Q σ :=
 RJ (By ops) hm hd ht λK hK=>KU ops.toList 0 σ rfl (h K hK)
def afn{id:Nat}{ops:Array Oper}(hm:P.follows .mixedOrders=true)(hd:fJ N ops=true)(ht:Gu ops=true)(h:∀ K:St->Prop,(∀ s,Q .normal s->K s)->sN P ops ops.toList K σ):
  W P N n0 (.region id ops true) Q σ :=
 Gr (By ops) hm hd ht λK hK=>KU ops.toList 0 σ rfl (h K hK)
def Holds.empty{f:FuncId}{sz:Nat}{pre post:List AV}{aa bb:List Ob}{res:AV}(h:∀ a cap,Holds P f (pre++.lit (.slice a 0 cap)::post) aa res bb):Holds P f (pre++.tree sz []::post) aa res bb:=by
 refine⟨(h none 0).1,λγ aO hs=>?_⟩;have jm:=hs.ar pre.length;have he:(pre++.tree sz []::post).getD pre.length .undef=.tree sz []:=Fl;rw[show(⟨λk=>(pre++AV.tree sz []::post).getD k .undef,aa⟩:St).env pre.length=.tree sz [] from he]at jm;obtain⟨a,cap,aR⟩:∃a cap,γ.tmps.getD pre.length Go.undef=.slice a 0 cap:=by
  generalize γ.tmps.getD pre.length Go.undef=cv at jm;have:=jm.zm;cases this with
  |nil _ cap a=>exact⟨a,cap,rfl⟩
  |tree _ _ b o cap f=>exact⟨_,cap,rfl⟩
 refine(h a cap).2 γ (by simpa using aO) ⟨λk=>?_,hs.dz,hs.inj,hs.nz,hs.gk,hs.gl⟩;by_cases hk:k=pre.length
 ·subst hk;show aw aa γ.w γ.Z γ.blk ((pre++.lit (.slice a 0 cap)::post).getD pre.length .undef) _;rw[show(pre++AV.lit (.slice a 0 cap)::post).getD pre.length .undef=.lit (.slice a 0 cap) by simp,aR];exact .lit _
 ·have:=hs.ar k;show aw aa γ.w γ.Z γ.blk ((pre++.lit (.slice a 0 cap)::post).getD k .undef) _;have e:(pre++AV.lit (.slice a 0 cap)::post).getD k .undef=(pre++AV.tree sz []::post).getD k .undef:=by
   simp only[List.getD_eq_getElem?_getD];congr 1;rcases Nat.lt_or_ge k pre.length with h'|h'
   ·rw[er h',er h']
   ·rw[gN h',gN h'];obtain⟨j,hj⟩:∃j,k-pre.length=j+1:=⟨k-pre.length-1,CZ⟩;rw[hj];simp
  rw[e];exact this
def aH.afo(d sz:Nat){a:Option Addr}{cap:Nat}(h:σ.env d=.lit (.slice a 0 cap)):aH n0 σ ⟨jn σ.env d (.tree sz []),σ.aa⟩:=by
 intro os γ0 γ _ hs hf;refine⟨γ,rfl,rfl,⟨λk=>?_,hs.dz,hs.inj,hs.nz,hs.gk,hs.gl⟩,hf⟩;show aw σ.aa γ.w γ.Z γ.blk (jn σ.env d (.tree sz []) k) _;by_cases hk:k=d
 ·subst hk;have:=hs.ar k;rw[h]at this;rw[aeq,this.cz];exact .cJ _ _ (.nil sz cap a)
 ·rw[jn,if_neg hk];exact hs.ar k
end Go.Am
namespace Go.Am
def Gv(k:IntKind)(n:Int):eh (.int k n)=.lit (.int k n):=by first|rfl|(cases b<;>rfl)|(simp only[eh];done)|(unfold fR;split<;>simp_all)
def Gw(b:Bool):eh (.bool b)=.lit (.bool b):=by first|rfl|(cases b<;>rfl)|(simp only[eh];done)|(unfold fR;split<;>simp_all)
def Gx(a:Option Addr)(n c:Nat):eh (.slice a n c)=.lit (.slice a n c):=by first|rfl|(cases b<;>rfl)|(simp only[eh];done)|(unfold fR;split<;>simp_all)
def Gy(s:ByteArray):eh (.string s)=.lit (.string s):=by first|rfl|(cases b<;>rfl)|(simp only[eh];done)|(unfold fR;split<;>simp_all)
def Gz(s:Array Value):eh (.tuple s)=.lit (.tuple s):=by first|rfl|(cases b<;>rfl)|(simp only[eh];done)|(unfold fR;split<;>simp_all)
def RR(ρ:Nat->Nat)(v:Value):bh ρ (.lit v)=.lit v:=by first|rfl|(cases b<;>rfl)|(simp only[eh];done)|(unfold fR;split<;>simp_all)
def RS(ρ:Nat->Nat)(s:Nat)(r:List (List AV)):bh ρ (.tree s r)=.tree s r:=by first|rfl|(cases b<;>rfl)|(simp only[eh];done)|(unfold fR;split<;>simp_all)
def RT(ρ:Nat->Nat)(r:List AV):bh ρ (.cj r)=.cj r:=by first|rfl|(cases b<;>rfl)|(simp only[eh];done)|(unfold fR;split<;>simp_all)
def RU(ρ:Nat->Nat):bh ρ .undef=.undef:=by first|rfl|(cases b<;>rfl)|(simp only[eh];done)|(unfold fR;split<;>simp_all)
def RV(v:Value):cellsOf (.lit v)=[.lit v]:=by first|rfl|(cases b<;>rfl)|(simp only[eh];done)|(unfold fR;split<;>simp_all)
def RW(s:Nat)(r:List (List AV)):cellsOf (.tree s r)=[.tree s r]:=by first|rfl|(cases b<;>rfl)|(simp only[eh];done)|(unfold fR;split<;>simp_all)
def RX(r:List AV):cellsOf (.cj r)=[.cj r]:=by first|rfl|(cases b<;>rfl)|(simp only[eh];done)|(unfold fR;split<;>simp_all)
def RY(a b c d:Nat):cellsOf (.ref a b c d)=[.ref a b c d]:=by first|rfl|(cases b<;>rfl)|(simp only[eh];done)|(unfold fR;split<;>simp_all)
def RZ(a b c:Nat):cellsOf (.ptr a b c)=[.ptr a b c]:=by first|rfl|(cases b<;>rfl)|(simp only[eh];done)|(unfold fR;split<;>simp_all)
def R0(id:Nat):cellsOf (.db id)=[.db id]:=rfl
def R2(t:TypeId)(v:AV):cellsOf (.iv t v)=[.iv t v]:=rfl
def R3(f:FuncId)(l:List AV):cellsOf (.fn f l)=[.fn f l]:=by first|rfl|(cases b<;>rfl)|(simp only[eh];done)|(unfold fR;split<;>simp_all)
def R4(t:Bool)(s:Array Value)(b:AV):fR t (.lit (.tuple s)) b=if t=true then .lit (.tuple s) else b:=by first|rfl|(cases b<;>rfl)|(simp only[eh];done)|(unfold fR;split<;>simp_all)
def R5(t:Bool)(s:Array Value)(b:AV):fR t b (.lit (.tuple s))=if t=true then b else .lit (.tuple s):=by first|rfl|(cases b<;>rfl)|(simp only[eh];done)|(unfold fR;split<;>simp_all)
def R6(t:Bool)(s u:List AV):fR t (.agg s) (.agg u)=if t=true then .agg s else .agg u:=by first|rfl|(cases b<;>rfl)|(simp only[eh];done)|(unfold fR;split<;>simp_all)
def R7(l:List AV):cQ (.agg l)=false:=by first|rfl|(cases b<;>rfl)|(simp only[eh];done)|(unfold fR;split<;>simp_all)
def R8(l:List AV):cQ (.bx l)=false:=by first|rfl|(cases b<;>rfl)|(simp only[eh];done)|(unfold fR;split<;>simp_all)
def R9  : cQ .undef=false:=by first|rfl|(cases b<;>rfl)|(simp only[eh];done)|(unfold fR;split<;>simp_all)
def Sa(k:IntKind)(n:Int):Value.oneCell' (.int k n)=true:=by first|rfl|(cases b<;>rfl)|(simp only[eh];done)|(unfold fR;split<;>simp_all)
def Sb(b:Bool):Value.oneCell' (.bool b)=true:=by first|rfl|(cases b<;>rfl)|(simp only[eh];done)|(unfold fR;split<;>simp_all)
def Sd(a:Option Addr)(n c:Nat):Value.oneCell' (.slice a n c)=true:=by first|rfl|(cases b<;>rfl)|(simp only[eh];done)|(unfold fR;split<;>simp_all)
def Se(s:ByteArray):Value.oneCell' (.string s)=true:=by first|rfl|(cases b<;>rfl)|(simp only[eh];done)|(unfold fR;split<;>simp_all)
def Sf(a:Option Addr):Value.oneCell' (.pointer a)=true:=by first|rfl|(cases b<;>rfl)|(simp only[eh];done)|(unfold fR;split<;>simp_all)
def Sh(a:Option Nat):Value.oneCell' (.map a)=true:=by first|rfl|(cases b<;>rfl)|(simp only[eh];done)|(unfold fR;split<;>simp_all)
def Pc:=aba @A3.eq_1 @A3.eq_2 @xR.eq_1 @xR.eq_2 @A4.eq_1 @A4.eq_2 @pY.eq_1 (aba @pY.eq_2 @pY.eq_3 @Jw.eq_1 @Jy.eq_1 @gB.eq_1 @gB.eq_2 @gB.eq_3 (aba @gB.eq_4 @gB.eq_5 @gB.eq_6 @gB.eq_7 @gB.eq_8 @gB.eq_9 @gB.eq_10 (aba @gB.eq_11 @gB.eq_12 @gB.eq_13 @ml.eq_1 @ew.eq_1 @pY.eq_4 @Ry (OZ @Rz @RA @RB))))
def Sc:=aba @ev.eq_1 @ev.eq_2 @ev.eq_3 @ev.eq_4 @eh.eq_1 @St.put.eq_1 @St.put.eq_2 (aba @vd.eq_1 @vd.eq_2 @vf.eq_1 @vf.eq_2 @fR.eq_1 @jF.eq_1 @jF.eq_2 (aba @fc.eq_1 @fc.eq_2 @bh.eq_1 @bh.eq_2 @bh.eq_3 @bh.eq_4 @bh.eq_5 (aba @bh.eq_6 @n9.eq_1 @n9.eq_2 @bq.eq_1 @rowOf.eq_1 @nQ.eq_1 @nu.eq_1 (aba @nu.eq_2 @lj.eq_1 @lj.eq_2 @cellsOf.eq_1 @setCells.eq_1 @setCells.eq_2 @mh.eq_1 (aba @mh.eq_2 @mj.eq_1 @mj.eq_2 @cQ.eq_1 @cQ.eq_2 @cQ.eq_3 @cQ.eq_4 (aba @cQ.eq_5 @cQ.eq_6 @Ty.isAgg.eq_1 @Value.oneCell'.eq_1 @Value.oneCell'.eq_2 @uo.eq_1 @wW.eq_1 (aba @wW.eq_2 @ay.eq_1 @cA.eq_1 @bm.eq_1 @aL.eq_1 @yd.eq_1 @ej.eq_1 (aba @dt.eq_1 @oX.eq_1 @oX.eq_2 @Gp @RH @KR @RP (aba @KT @RQ @iI @pV @Gv @Gw @Gx (aba @Gy @Gz @RR @RS @RT @RU @RV (aba @RW @RX @RY @RZ @R3 @R4 @R5 (aba @R6 @R7 @R8 @R9 @Sa @Sb @Sd (aba @Se @Sf @Sh @cQ.eq_7 @R2 @Pl @PV (aba @PW @Jx.eq_1 @oW.eq_1 @oW.eq_2 @bh.eq_7 @cQ.eq_8 @R0 (aba @PN @PO @PQ @PU @PR @PS @Pd (O0 @lI.eq_1 @keyOf.eq_1 @keyOf.eq_2 @kd.eq_1))))))))))))))))
def Lc:=aba @ev.eq_1 @ev.eq_2 @ev.eq_3 @ev.eq_4 @eh.eq_1 @St.put.eq_1 @St.put.eq_2 (aac @Gv @Gw @Gx @Gy @Gz)
def eH{P:Program}{N n0:Nat}(id:Nat){ops:Array Oper}{d:Bool}{y:Code}{Q:Exit->St->Prop}{σ:St}(h:W P N n0 (.seq (.region id ops d) y) Q σ):W P N n0 (.seq (.region id ops d) y) Q σ:=h
def eI{P:Program}{N n0:Nat}(id:Nat){ops:Array Oper}{d:Bool}{Q:Exit->St->Prop}{σ:St}(h:W P N n0 (.region id ops d) Q σ):W P N n0 (.region id ops d) Q σ:=h
end Go.Am
namespace Go.Am
variable {P:Program} {N n0:Nat} {σ:St}
def yf:Ob->Bool
 |.gone=>false
 |.var cs=>lJ cs
 |.arr _ rows=>rows.all lJ
 |.mp _ _=>false
def Si{ρ:Nat->Nat}{o:Ob}(h:yf o=true):bM ρ o=o:=by
 cases o with
 |gone=>simp[yf]at h
 |var cs =>
  have:=Be ρ cs h;rw[wL]at this;simp[bM,this]
 |arr sz rows=>exact C' (by simpa [yf,e8] using h)
 |mp ag L=>simp[yf]at h
def Sj(hd:Nat)(c a:AV):Prop:=(a=c/\kq c=true)\/(c=.ptr 0 0 0/\a=.ptr hd 0 0)
def DC(P:Program)(hd:Nat)(g:FuncId)(args:List AV)(dst:Option Tmp)(K:St->Prop)(σ:St):Prop :=
 ∃ dp D res D',Holds P g dp [D] res [D']/\yf D=true/\yf D'=true/\σ.aa[hd]?=some D/\kq res=true/\nS (Sj hd) dp args/\K ((⟨σ.env,σ.aa.set hd D'⟩:St).put dst res)
def afp{hd:Nat}{g:FuncId}{args:List AV}{dst:Option Tmp}{K:St->Prop}(h:DC P hd g args dst K σ):rX P g args dst K σ:=by
 obtain⟨dp,D,res,D',h1,h2,h3,h4,h5,h6,h7⟩:=h;obtain⟨h8,h9⟩:=h6.spec;have hρ:bq σ.aa.length [hd] 0=hd:=by simp[bq]
 refine⟨[hd],false,dp,[D],res,[D'],h1,⟨Fl,rfl,λj o hj=>?_,h8,λj c d hc ud=>?_,Fl⟩,?_⟩
 ·cases j with
  |zero=>simp at hj;subst hj;simp[Si h2,h4]
  |succ j=>simp at hj
 ·rcases h9 j c d hc ud with⟨rfl,hn⟩|⟨rfl,rfl⟩
  ·exact .pure hn
  ·exact .eq (by simp[bh,hρ])
 ·have e:fc σ.aa [hd] ([D'].map (bM (bq σ.aa.length [hd])))=σ.aa.set hd D':=by simp[fc,Si h3]
  show K (({ σ with aa:=fc σ.aa [hd] ([D'].map (bM (bq σ.aa.length [hd]))) }:St).put dst (bh (bq σ.aa.length [hd]) res));rw[e,zi _ _ h5];exact h7
def yg(hd:Nat)(P:Program)(o:Oper)(σ:St)(K:St->Prop):Prop :=
 match o.op with
 |.call { callee:=.value f,args,.. } =>
  match ev σ f with
  |.fn g bn=>DC P hd g (args.toList.map (ev σ)++bn) o.dst K σ
  |_=>False
 |_=>False
def afr{hd:Nat}{o:Oper}{K:St->Prop}(h:yg hd P o σ K):aJ P o σ K:=by
 unfold yg at h;unfold aJ;split at h
 ·rename_i f args cm cO;simp only[cO];split at h
  ·rename_i g bn he;simp only[he];exact afp h
  ·exact h.elim
 ·exact h.elim
def oz(hd:Nat):AV->Bool
 |.ptr id _ _=>id != hd
 |.ref id _ _ _=>id != hd
 |.db id=>id != hd
 |_=>true
def sP(hd:Nat)(σ:St):List Operand->Bool
 |[]=>true
 |x::l=>oz hd (ev σ x)&&sP hd σ l
def eO(hd:Nat)(q:Bool)(o:Oper)(σ:St):Bool:=q||cls o.op==0||decide (3<=cls o.op)||sP hd σ o.op.operands.toList
def Sk{hd:Nat}:∀ {l:List Operand},sP hd σ l=true->∀ x∈l,oh (ev σ x)≠some hd
 |[],_,x,hx=>by simp at hx
 |y::l,h,x,hx=>by
  simp only[sP,a7]at h;rcases a8.1 hx with rfl|hx
  ·intro e;have h1:=h.1;cases hv:ev σ x<;>rw[hv]at e h1<;>simp[oh,oz]at e h1
   ·exact h1 e
   ·exact h1 e
   ·exact h1 e
  ·exact Sk h.2 x hx
def KV{hd:Nat}{σ2:St}:∀ {l:List Operand},(∀ x∈l,ev σ2 x=ev σ x)->sP hd σ2 l=sP hd σ l
 |[],_=>rfl
 |y::l,h=>by
  simp only[sP];rw[h y Fl,KV λx hx=>h x (by simp[hx])]
def kz(P:Program)(ops:Array Oper)(hd:Nat)(q dc:Bool)(o:Oper)(K:St->Prop)(σ:St):Prop :=
 match dc with
 |true=>o.guard=none/\yg hd P o σ K
 |false=>eO hd q o σ=true/\ew P ops q o K σ
def cN(q dc:Bool)(o:Oper):Nat:=if dc then 6 else eM q o
def DD(hd c:Nat)(a b:List Ob):Prop:=if c=6 then ∀ id,id≠hd->b[id]?=a[id]? else kr c a b
def afs{N:Nat}{os:List Ob}{γ0:Cx}{ops:Array Oper}{hh:Nat}(hd:∀ o∈ops.toList,∀ d,o.dst=some d->d<N){q dc:Bool}{i:Nat}{o:Oper}(hi:ops[i]?=some o){σ:St}{K:St->Prop}(h:kz P ops hh q dc o K σ){a:Act}{w:World}(aA:gf N os γ0 σ a w){Q:Exit->Act->World->Prop}{next:Act->World->Prop}(hn:∀ σ' a' w',K σ'->gf N os γ0 σ' a' w'->next a' w'):wpOp P ops Q i next a w:=by
 cases dc with
 |false=>exact JF hd hi h.2 aA hn
 |true =>
  have cD:o∈ops.toList:=ik (by simpa using hi);unfold wpOp;simp only[hi];have hw:Region.wanted o (yielded ops a.tmps)=true:=by simp[Region.wanted,h.1]
  rw[if_pos hw];left;exact wJ (afr h.2) aA (hd o cD) hn
def GA{ops:Array Oper}{hh:Nat}{q dc:Bool}{o:Oper}{σ:St}{K:St->Prop}(hW:kz P ops hh q dc o K σ):
  ∃ v os,DD hh (cN q dc o) σ.aa os/\K ((⟨σ.env,os⟩:St).put o.dst v)/\∀ (e2:Nat->AV) (K2:St->Prop),(∀ t∈o.looksAt ops,e2 t=σ.env t)->K2 ((⟨e2,os⟩:St).put o.dst v)->kz P ops hh q dc o K2 ⟨e2,σ.aa⟩:=by
 cases dc with
 |false =>
  obtain⟨hc,hW⟩:=hW;obtain⟨v,os,h1,h2,h3⟩:=A9 hW;refine⟨v,os,?_,h2,λe2 K2 hl hK=>⟨?_,h3 e2 K2 hl hK⟩⟩
  ·unfold DD cN;simp only[jd,if_false];rw[if_neg]
   ·exact h1
   ·unfold eM;split
    ·omega
    ·unfold cls;split<;>omega
  ·unfold eO at hc ⊢;rw[KV (σ:=σ) (sc hl)];exact hc
 |true =>
  obtain⟨hg,hW⟩:=hW;unfold yg at hW;split at hW
  ·rename_i f args cm cO;split at hW
   ·rename_i g bn he;obtain⟨dp,D,res,D',h1,h2,h3,h4,h5,h6,h7⟩:=hW;refine⟨res,σ.aa.set hh D',?_,h7,λe2 K2 hl hK=>⟨hg,?_⟩⟩
    ·unfold DD cN;simp only[if_true];intro id bV;rw[List.getElem?_set,if_neg (Ne.symm bV)]
    ·unfold yg;simp only[cO];have hx:=sc (os:=σ.aa) hl;have e1:ev ⟨e2,σ.aa⟩ f=.fn g bn:=by rw[<- he];exact hx f (by simp[cO,Op.operands,Call.operands])
     have e3:args.toList.map (ev ⟨e2,σ.aa⟩)=args.toList.map (ev σ):=tI λy hy=>hx y (by simp only[cO,Op.operands,Call.operands,AQ,da];exact .inr hy);simp only[e1,e3];exact⟨dp,D,res,D',h1,h2,h3,h4,h5,h6,hK⟩
   ·exact hW.elim
  ·exact hW.elim
def aft{o:Oper}{σ:St}{K:St->Prop}(hc:cls o.op<=2)(hW:aJ P o σ K):
  ∃ v,K (σ.put o.dst v)/\∀ (σ2:St) (K2:St->Prop),(∀ x∈o.op.operands.toList,ev σ2 x=ev σ x)->(∀ x∈o.op.operands.toList,∀ id,oh (ev σ x)=some id->gR (cls o.op) σ.aa[id]? σ2.aa[id]?)->K2 (σ2.put o.dst v)->aJ P o σ2 K2:=by
 unfold aJ at hW ⊢;split at hW
 ·rename_i f args cm cO;rw[cO]at hc;simp[cls]at hc
 ·rename_i r m args cm cO;rw[cO]at hc;simp[cls]at hc
 ·rename_i bX;obtain⟨v,h2,h3⟩:=QH hc hW;refine⟨v,h2,λσ2 K2 hx ho hK=>?_⟩;exact h3 σ2 K2 hx (ho) hK
def Sl{q:Bool}{o:Oper}{σ:St}{K:St->Prop}(hc:eM q o<=2)(hW:lH q P o σ K):
  ∃ v,K (σ.put o.dst v)/\∀ (σ2:St) (K2:St->Prop),(∀ x∈o.op.operands.toList,ev σ2 x=ev σ x)->(∀ x∈o.op.operands.toList,∀ id,oh (ev σ x)=some id->gR (eM q o) σ.aa[id]? σ2.aa[id]?)->K2 (σ2.put o.dst v)->lH q P o σ2 K2:=by
 cases q with
 |false=>exact aft hc hW
 |true =>
  unfold lH at hW ⊢;simp only at hW ⊢;split at hW
  ·rename_i f args cm cO;simp only[cO];split at hW
   ·rename_i g bn he;obtain⟨res,h1,h2,h3,h4⟩:=hW;refine⟨res,h4,λσ2 K2 hx _ hK=>?_⟩;have e1:ev σ2 f=.fn g bn:=by rw[<- he];exact hx f (by simp[Op.operands,Call.operands])
    have e3:args.toList.map (ev σ2)=args.toList.map (ev σ):=tI λy hy=>hx y (by simp only[Op.operands,Call.operands,AQ,da];exact .inr hy);simp only[e1,e3];exact⟨res,h1,h2,h3,hK⟩
   ·exact hW.elim
  ·rename_i t a cO;obtain⟨x,h1,h2⟩:=JE hW;refine⟨x,h1,λσ2 K2 hx _ hK=>?_⟩;rw[hx a (by simp[cO,Op.operands])];exact h2 _ K2 hK
  ·exact hW.elim
def Sm{ops:Array Oper}{q:Bool}{o:Oper}{σ:St}{K:St->Prop}(hc:eM q o<=2)(hW:ew P ops q o K σ):
  ∃ v,K (σ.put o.dst v)/\∀ (σ2:St) (K2:St->Prop),(∀ t∈o.looksAt ops,σ2.env t=σ.env t)->(∀ x∈o.op.operands.toList,∀ id,oh (ev σ x)=some id->gR (eM q o) σ.aa[id]? σ2.aa[id]?)->K2 (σ2.put o.dst v)->ew P ops q o K2 σ2:=by
 unfold ew at hW ⊢;cases hg:o.guard with
 |none =>
  simp only[hg]at hW;obtain⟨v,h2,h3⟩:=Sl hc hW;exact⟨v,h2,λσ2 K2 hl ho hK=>h3 σ2 K2 (sc (e2:=σ2.env) (os:=σ2.aa) hl) ho hK⟩
 |some jw =>
  obtain⟨j,want⟩:=jw;simp only[hg]at hW;cases dT:(ops[j]?).bind (·.dst) with
  |none=>simp[dT]at hW
  |some d =>
   simp only[dT]at hW;split at hW
   ·rename_i b he;by_cases gr:b=want
    ·obtain⟨v,h2,h3⟩:=Sl hc (hW.1 gr);refine⟨v,h2,λσ2 K2 hl ho hK=>?_⟩;have:σ2.env d=.lit (.bool b):=by rw[hl d (wK hg dT)];exact he
     simp only[dT,this];exact⟨λ_=>h3 σ2 K2 (sc (e2:=σ2.env) (os:=σ2.aa) hl) ho hK,λhn=>absurd gr hn⟩
    ·refine⟨.lit (.tuple #[]),hW.2 gr,λσ2 K2 hl ho hK=>?_⟩;have:σ2.env d=.lit (.bool b):=by rw[hl d (wK hg dT)];exact he
     simp only[dT,this];exact⟨λhn=>absurd hn gr,λ_=>hK⟩
   ·rename_i vs he;refine⟨.lit (.tuple #[]),hW.2,λσ2 K2 hl ho hK=>?_⟩;have:σ2.env d=.lit (.tuple vs):=by rw[hl d (wK hg dT)];exact he
    simp only[dT,this];exact⟨hW.1,hK⟩
   ·exact hW.elim
def Sn{ops:Array Oper}{hh:Nat}{q dc:Bool}{o:Oper}{σ:St}{K:St->Prop}(hc:cN q dc o<=2)(hW:kz P ops hh q dc o K σ):
  ∃ v,K (σ.put o.dst v)/\∀ (σ2:St) (K2:St->Prop),(∀ t∈o.looksAt ops,σ2.env t=σ.env t)->(∀ (id:Nat),id≠hh->gR (cN q dc o) σ.aa[id]? σ2.aa[id]?)->K2 (σ2.put o.dst v)->kz P ops hh q dc o K2 σ2:=by
 cases dc with
 |true=>simp[cN]at hc
 |false =>
  obtain⟨hk,hW⟩:=hW;have fI:eM q o<=2:=by simpa [cN] using hc
  obtain⟨v,h1,h2⟩:=Sm fI hW;refine⟨v,h1,λσ2 K2 hl ho hK=>⟨?_,h2 σ2 K2 hl (λx hx id hp=>?_) hK⟩⟩
  ·unfold eO at hk ⊢;rw[KV (σ:=σ) (sc (e2:=σ2.env) (os:=σ2.aa) hl)];exact hk
  ·have cH:∀ id,id≠hh->gR (eM q o) σ.aa[id]? σ2.aa[id]?:=by simpa [cN] using ho
   by_cases h0:eM q o=0
   ·rw[h0];simp[gR]
   ·refine cH id λe=>?_;subst e;unfold eM at h0 fI;split at h0
    ·omega
    ·rename_i hq;simp only[hq]at fI;have vA:q=false:=by simpa using hq
     subst vA;unfold eO at hk;have um:cls o.op<=2:=by simpa using fI
     have h3:decide (3<=cls o.op)=false:=decide_eq_false CZ;have h4:(cls o.op==0)=false:=by simpa using h0
     rw[h3,h4]at hk;simp only[pP]at hk;exact Sk hk x hx hp
def zL(ci ck:Nat):Bool:=zf ci ck||(decide (ci<=2)&&ck==6)
def afu{hh ci ck:Nat}(h:(ci==0||(ci==1&&decide (ck<=4))||(ci==2&&decide (ck<=3))||(decide (ci<=2)&&ck==6))=true){a b:List Ob}(he:DD hh ck a b)(id:Nat)(bV:id≠hh):gR ci a[id]? b[id]?:=by
 unfold DD at he;split at he
 ·rename_i h6;subst h6;rw[he id bV];unfold gR;split
  ·trivial
  ·split
   ·intro o ho;exact⟨o,ho,xX o⟩
   ·intro o ho;exact ho
 ·rename_i h6;refine JH ?_ he id;have:(ck==6)=false:=by simpa using h6
  rw[this]at h;simpa using h
def afv{ops:Array Oper}{hh:Nat}{qi qk di dk:Bool}{oi ok:Oper}(ha:oi.apart ops ok=true)(hi:cN qi di oi<=2)(hc:(cN qi di oi==0||(cN qi di oi==1&&decide (cN qk dk ok<=4))||(cN qi di oi==2&&decide (cN qk dk ok<=3))||(decide (cN qi di oi<=2)&&cN qk dk ok==6))=true){σ:St}{K:St->Prop}(h:kz P ops hh qi di oi (kz P ops hh qk dk ok K) σ):kz P ops hh qk dk ok (kz P ops hh qi di oi K) σ:=by
 obtain⟨a1,a2,a3⟩:=Oper.apart_spec ha;obtain⟨v,h1,run⟩:=Sn hi h;obtain⟨vk,os,ua,h2,xY⟩:=GA h1;rw[Bb]at ua xY;refine xY σ.env _ (λt ht=>(sq λd hd e=>a1 d hd (e▸ht)).symm) ?_;refine run _ _ (λt ht=>?_) (λid bV=>?_) ?_
 ·rw[sq λd hd e=>a3 d hd (e▸ht)]
 ·rw[Bb];exact afu hc ua id bV
 ·rw[Bd]at h2;rw[Ba (λd hd e=>a2 d e hd)];exact h2
def afw{ops:Array Oper}{hh:Nat}{qi qk di dk:Bool}{oi ok:Oper}(ha:oi.apart ops ok=true)(hk:cN qk dk ok=0){σ:St}{K:St->Prop}(h:kz P ops hh qi di oi (kz P ops hh qk dk ok K) σ):kz P ops hh qk dk ok (kz P ops hh qi di oi K) σ:=by
 obtain⟨a1,a2,a3⟩:=Oper.apart_spec ha;obtain⟨vi,os,ua,h1,run⟩:=GA h;obtain⟨vk,h2,C8⟩:=Sn CZ h1;refine C8 σ _ (λt ht=>(sq (σ:=⟨σ.env,os⟩) λd hd e=>a1 d hd (e▸ht)).symm) (λid _=>by rw[hk];simp[gR]) ?_;rw[JG];refine run _ _ (λt ht=>sq λd hd e=>a3 d hd (e▸ht)) ?_;rw[Bd,Ba (λd hd e=>a2 d e hd)];exact h2
def afx{ops:Array Oper}{hh:Nat}{qi qk di dk:Bool}{oi ok:Oper}(ha:oi.apart ops ok=true)(hc:zL (cN qi di oi) (cN qk dk ok)=true){σ:St}{K:St->Prop}(h:kz P ops hh qi di oi (kz P ops hh qk dk ok K) σ):kz P ops hh qk dk ok (kz P ops hh qi di oi K) σ:=by
 by_cases hk:cN qk dk ok=0
 ·exact afw ha hk h
 ·have fI:(cN qi di oi==0||(cN qi di oi==1&&decide (cN qk dk ok<=4))||(cN qi di oi==2&&decide (cN qk dk ok<=3))||(decide (cN qi di oi<=2)&&cN qk dk ok==6))=true:=by
   simp only[zL,zf,kL,a7,beq_iff_eq,decide_eq_true_eq]at hc ⊢;rcases hc with(((h|h)|h)|h)|h
   ·exact .inl (.inl (.inl h))
   ·exact absurd h hk
   ·exact .inl (.inl (.inr h))
   ·exact .inl (.inr h)
   ·exact .inr h
  refine afv ha ?_ fI h;simp only[kL,a7,beq_iff_eq,decide_eq_true_eq]at fI;omega
def iA(P:Program)(ops:Array Oper)(hh:Nat)(qs ds:List Nat)(i:Nat)(K:St->Prop)(σ:St):Prop :=
 match ops[i]? with
 |none=>K σ
 |some o=>kz P ops hh (qs.contains i) (ds.contains i) o K σ
def vB(P:Program)(ops:Array Oper)(hh:Nat)(qs ds:List Nat)(K:St->Prop):Nat->Array Bool->St->Prop
 |0,aG,σ=>Region.ready .any ops aG=[]/\K σ
 |n+1,aG,σ=>(Region.ready .any ops aG=[]->K σ)/\∀ i∈Region.ready .any ops aG,iA P ops hh qs ds i (vB P ops hh qs ds K n (aG.setIfInBounds i true)) σ
def afy{ops:Array Oper}{hh:Nat}{q dc:Bool}{o:Oper}{σ:St}{K K2:St->Prop}(hk:∀ s,K s->K2 s)(h:kz P ops hh q dc o K σ):kz P ops hh q dc o K2 σ:=by
 obtain⟨v,os,_,h2,run⟩:=GA h;exact run σ.env K2 (λ_ _=>rfl) (hk _ h2)
def afz{ops:Array Oper}{hh:Nat}{q dc:Bool}{o:Oper}{σ:St}{K:St->Prop}(h:kz P ops hh q dc o K σ):∃s,K s:=by
 obtain⟨v,os,_,h2,run⟩:=GA h;exact⟨_,h2⟩
def yh{ops:Array Oper}{hh:Nat}{qs ds:List Nat}{i:Nat}{σ:St}{K K2:St->Prop}(hk:∀ s,K s->K2 s)(h:iA P ops hh qs ds i K σ):iA P ops hh qs ds i K2 σ:=by
 unfold iA at h ⊢;split at h
 ·exact hk _ h
 ·exact afy hk h
def afA{ops:Array Oper}{hh:Nat}{qs ds:List Nat}{i:Nat}{σ:St}{K:St->Prop}(h:iA P ops hh qs ds i K σ):∃s,K s:=by
 unfold iA at h;split at h
 ·exact⟨_,h⟩
 ·exact afz h
def KW{os:List Ob}{γ0:Cx}{ops:Array Oper}{hh:Nat}{qs ds:List Nat}(hd:∀ o∈ops.toList,∀ d,o.dst=some d->d<N){K:St->Prop}{Q:Exit->Act->World->Prop}(hQ:∀ σ' a' w',K σ'->gf N os γ0 σ' a' w'->Q .normal a' w'):∀ (n:Nat) (aG:Array Bool) (σ:St) (a:Act) (w:World),vB P ops hh qs ds K n aG σ->gf N os γ0 σ a w->wpAny P .any ops Q n aG a w
 |0,aG,σ,a,w,h,aA=>⟨h.1,hQ _ _ _ h.2 aA⟩
 |n+1,aG,σ,a,w,h,aA=>by
  refine⟨λhr=>hQ _ _ _ (h.1 hr) aA,λi hi=>?_⟩;have:=h.2 i hi;unfold iA at this;split at this
  ·rename_i aq;unfold wpOp;simp only[aq];exact KW hd hQ n _ _ _ _ this aA
  ·rename_i o aq;exact afs hd aq this aA λσ' a' w' hK cW=>KW hd hQ n _ _ _ _ hK cW
def afB{id:Nat}{ops:Array Oper}{Q:Exit->St->Prop}(hh:Nat)(qs ds:List Nat)(hm:P.follows .mixedOrders=true)(hd:fJ N ops=true)(h:vB P ops hh qs ds (Q .normal) ops.size (uW ops.size false) σ):W P N n0 (.region id ops true) Q σ:=by
 intro os γ0 a w _ aA;refine wp_region_any hm ?_;exact KW (sr hd) (K:=Q .normal) (λσ' a' w' hK cW=>⟨σ',hK,cW⟩) _ _ _ _ _ h aA.drawn
def afC{ops:Array Oper}{hh:Nat}{qs ds:List Nat}{K:St->Prop}{i:Nat}{o:Oper}(hi:ops[i]?=some o)(D:List Nat)(QM:i∈D)(hD:∀ j∈D,j=i\/∃ oj,ops[j]?=some oj/\∃ e∈oj.after,Region.binds .any e=true/\e.on∈D):∀ (fuel:Nat) (aG:Array Bool) (σ:St),(∀ j∈D,aG.getD j true=false) ->
   i∈Region.ready .any ops aG ->
   (∀ j oj,ops[j]?=some oj->aG.getD j true=false->j ∉ D->o.apart ops oj=true/\zL (cN (qs.contains i) (ds.contains i) o) (cN (qs.contains j) (ds.contains j) oj)=true) ->
   iA P ops hh qs ds i (vB P ops hh qs ds K fuel (aG.setIfInBounds i true)) σ->vB P ops hh qs ds K (fuel+1) aG σ:=by
 intro fuel
 induction fuel with
 |zero =>
  intro aG σ hu hr lK h;refine⟨λe=>by rw[e]at hr;simp at hr,λk hk=>?_⟩;by_cases eC:k=i
  ·subst eC;exact h
  ·obtain⟨s,hs⟩:=afA h;have:=ready_mono hk eC;rw[hs.1]at this;simp at this
 |succ m ih =>
  intro aG σ hu hr lK h;refine⟨λe=>by rw[e]at hr;simp at hr,λk hk=>?_⟩;by_cases eC:k=i
  ·subst eC;exact h
  ·have zg:=mem_ready.1 hk;obtain⟨dY,ok,aA,c7⟩:=zg;have p7:k ∉ D:=by
    intro p7;rcases hD k p7 with e|⟨oj,gT,e,he,hb,nX⟩
    ·exact eC e
    ·rw[aA]at gT;simp only[Option.some.injEq]at gT;subst gT;have h1:=c7 e he hb;have h2:=hu e.on nX;rw[Array.getD_eq_getD_getElem?]at h1 h2;cases hx:aG[e.on]? with
     |none=>rw[hx]at h1;simp at h1
     |some b=>rw[hx]at h1 h2;simp at h1 h2;rw[h1]at h2;simp at h2
   obtain⟨ha,hc⟩:=lK k ok aA dY p7;have h1:iA P ops hh qs ds i (iA P ops hh qs ds k (vB P ops hh qs ds K m ((aG.setIfInBounds i true).setIfInBounds k true))) σ :=
    yh (λs hs=>hs.2 k (ready_mono hk eC)) h
   have h2:iA P ops hh qs ds k (iA P ops hh qs ds i (vB P ops hh qs ds K m ((aG.setIfInBounds i true).setIfInBounds k true))) σ:=by
    unfold iA at h1 ⊢;simp only[hi,aA]at h1 ⊢;exact afx ha hc h1
   refine yh (λs hs=>?_) h2;refine ih (aG.setIfInBounds k true) s (λj hj=>?_) (ready_mono hr (Ne.symm eC)) (λj oj gT hl nY=>?_) ?_
   ·have bX:k≠j:=λe=>p7 (by rw[e];exact hj);rw[getD_set_ne _ bX];exact hu j hj
   ·refine lK j oj gT ?_ nY;by_cases xZ:k=j
    ·subst xZ;exact dY
    ·rwa [getD_set_ne _ xZ]at hl
   ·rw[Array.setIfInBounds_comm _ _ (Ne.symm eC)]at hs;exact hs
def DE(ops:Array Oper)(qs ds:List Nat)(aG:Array Bool)(i:Nat)(D:List Nat):Bool :=
 match ops[i]? with
 |none=>false
 |some o =>
  D.contains i&&D.all (λj=>j==i||match ops[j]? with|some oj=>oj.after.any (λe=>Region.binds .any e&&D.contains e.on)|none=>false) &&
  D.all (λj=>!aG.getD j true)&&o.after.all (λe=>!Region.binds .any e||aG.getD e.on false) &&
  (aY ops.size).all λj=>D.contains j||aG.getD j true||match ops[j]? with|some oj=>o.apart ops oj&&zL (cN (qs.contains i) (ds.contains i) o) (cN (qs.contains j) (ds.contains j) oj)|none=>true
def afD{ops:Array Oper}{hh:Nat}{qs ds:List Nat}{K:St->Prop}{i:Nat}{D:List Nat}{fuel:Nat}{aG:Array Bool}(h:DE ops qs ds aG i D=true)(hs:iA P ops hh qs ds i (vB P ops hh qs ds K fuel (aG.setIfInBounds i true)) σ):vB P ops hh qs ds K (fuel+1) aG σ:=by
 unfold DE at h;cases hi:ops[i]? with
 |none=>simp[hi]at h
 |some o =>
  simp only[hi,a7,e8,uX,kL,beq_iff_eq,lg]at h;obtain⟨⟨⟨⟨h1,h2⟩,h3⟩,h4⟩,h5⟩:=h;refine afC hi D h1 (λj hj=>?_) fuel aG σ h3 ?_ ?_ hs
  ·rcases h2 j hj with h|h
   ·exact .inl h
   ·right;split at h
    ·rename_i oj gT;rw[Array.any_eq_true']at h;obtain⟨e,he,hb⟩:=h;simp only[a7,uX]at hb;exact⟨oj,gT,e,he,hb.1,hb.2⟩
    ·simp at h
  ·rw[mem_ready];refine⟨h3 i h1,o,hi,λe he hb=>?_⟩;rw[Array.all_eq_true']at h4;have:=h4 e he;simpa [hb] using this
  ·intro j oj gT hl nY;have hj:j<ops.size:=(mM.1 gT).1;rcases h5 j (mN.2 hj) with(h|h)|h
   ·exact absurd h nY
   ·rw[hl]at h;simp at h
   ·simpa [gT] using h
def PT.kf(ops:Array Oper)(qs ds:List Nat):PT->Nat->Array Bool->Bool
 |.nil,n,aG=>n==0&&(Region.ready .any ops aG).isEmpty
 |.take _ _,0,_=>false
 |.take i t,n+1,aG=>DE ops qs ds aG i (JJ ops i)&&t.kf ops qs ds n (aG.setIfInBounds i true)
 |.both _ _ _ _,0,_=>false
 |.both i t j u,n+1,aG=>(Region.ready .any ops aG==[i,j])&&t.kf ops qs ds n (aG.setIfInBounds i true)&&u.kf ops qs ds n (aG.setIfInBounds j true)
 |.three _ _ _ _ _ _,0,_=>false
 |.three i t j u k v,n+1,aG=>(Region.ready .any ops aG==[i,j,k])&&t.kf ops qs ds n (aG.setIfInBounds i true)&&u.kf ops qs ds n (aG.setIfInBounds j true)&&v.kf ops qs ds n (aG.setIfInBounds k true)
def mY(P:Program)(ops:Array Oper)(hh:Nat)(qs ds:List Nat):PT->(St->Prop)->St->Prop
 |.nil,K,σ=>K σ
 |.take i t,K,σ=>iA P ops hh qs ds i (mY P ops hh qs ds t K) σ
 |.both i t j u,K,σ=>iA P ops hh qs ds i (mY P ops hh qs ds t K) σ/\iA P ops hh qs ds j (mY P ops hh qs ds u K) σ
 |.three i t j u k v,K,σ=>iA P ops hh qs ds i (mY P ops hh qs ds t K) σ/\iA P ops hh qs ds j (mY P ops hh qs ds u K) σ/\iA P ops hh qs ds k (mY P ops hh qs ds v K) σ
def zM{ops:Array Oper}{hh:Nat}{qs ds:List Nat}{K:St->Prop}:∀ (t:PT) (n:Nat) (aG:Array Bool) (σ:St),t.kf ops qs ds n aG=true->mY P ops hh qs ds t K σ->vB P ops hh qs ds K n aG σ
 |.nil,n,aG,σ,h,hp=>by
  simp only[PT.kf,a7,beq_iff_eq,OP]at h;obtain⟨rfl,h⟩:=h;exact⟨h,hp⟩
 |.take _ _,0,_,_,h,_=>by simp[PT.kf]at h
 |.take i t,n+1,aG,σ,h,hp=>by
  simp only[PT.kf,a7]at h;exact afD h.1 (yh (λs hs=>zM t n _ s h.2 hs) hp)
 |.both _ _ _ _,0,_,_,h,_=>by simp[PT.kf]at h
 |.both i t j u,n+1,aG,σ,h,hp=>by
  simp only[PT.kf,a7,beq_iff_eq]at h;obtain⟨⟨h1,h2⟩,h3⟩:=h;refine⟨λe=>by rw[h1]at e;simp at e,λk hk=>?_⟩;rw[h1]at hk;simp only[a8,iJ,or_false]at hk;rcases hk with rfl|rfl
  ·exact yh (λs hs=>zM t n _ s h2 hs) hp.1
  ·exact yh (λs hs=>zM u n _ s h3 hs) hp.2
 |.three _ _ _ _ _ _,0,_,_,h,_=>by simp[PT.kf]at h
 |.three i t j u k v,n+1,aG,σ,h,hp=>by
  simp only[PT.kf,a7,beq_iff_eq]at h;obtain⟨⟨⟨h1,h2⟩,h3⟩,h4⟩:=h;refine⟨λe=>by rw[h1]at e;simp at e,λx hk=>?_⟩;rw[h1]at hk;simp only[a8,iJ,or_false]at hk;rcases hk with rfl|rfl|rfl
  ·exact yh (λs hs=>zM t n _ s h2 hs) hp.1
  ·exact yh (λs hs=>zM u n _ s h3 hs) hp.2.1
  ·exact yh (λs hs=>zM v n _ s h4 hs) hp.2.2
def Sp{id:Nat}{ops:Array Oper}{Q:Exit->St->Prop}(hh:Nat)(qs ds:List Nat)(t:PT)(hm:P.follows .mixedOrders=true)(hd:fJ N ops=true)(ht:t.kf ops qs ds ops.size (uW ops.size false)=true)(h:mY P ops hh qs ds t (Q .normal) σ):W P N n0 (.region id ops true) Q σ :=
 afB hh qs ds hm hd (zM t _ _ σ ht h)
def Sr{ops:Array Oper}{hh:Nat}{qs ds:List Nat}{K:St->Prop}:mY P ops hh qs ds .nil K σ=K σ:=rfl
def Ss{ops:Array Oper}{hh:Nat}{qs ds:List Nat}{i:Nat}{t:PT}{K:St->Prop}:mY P ops hh qs ds (.take i t) K σ=iA P ops hh qs ds i (mY P ops hh qs ds t K) σ:=rfl
def Su{ops:Array Oper}{hh:Nat}{qs ds:List Nat}{i j k:Nat}{t u v:PT}{K:St->Prop}:mY P ops hh qs ds (.three i t j u k v) K σ=(iA P ops hh qs ds i (mY P ops hh qs ds t K) σ/\iA P ops hh qs ds j (mY P ops hh qs ds u K) σ/\iA P ops hh qs ds k (mY P ops hh qs ds v K) σ):=rfl
def Sv{ops:Array Oper}{hh:Nat}{qs ds:List Nat}{i j:Nat}{t u:PT}{K:St->Prop}:mY P ops hh qs ds (.both i t j u) K σ=(iA P ops hh qs ds i (mY P ops hh qs ds t K) σ/\iA P ops hh qs ds j (mY P ops hh qs ds u K) σ):=rfl
def Sw{ops:Array Oper}{hh:Nat}{q:Bool}{o:Oper}{K:St->Prop}:kz P ops hh q true o K σ=(o.guard=none/\yg hh P o σ K):=rfl
def Sx{ops:Array Oper}{hh:Nat}{q:Bool}{o:Oper}{K:St->Prop}:kz P ops hh q false o K σ=(eO hh q o σ=true/\ew P ops q o K σ):=rfl
def Sy(P:Program)(hh:Nat)(dst:Option Tmp)(args:List AV)(K:St->Prop)(σ:St):AV->Prop
 |.fn g bn=>DC P hh g (args++bn) dst K σ
 |_=>False
def Sz{hh:Nat}{dst:Option Tmp}{args:List AV}{K:St->Prop}{g:FuncId}{bn:List AV}:Sy P hh dst args K σ (.fn g bn)=DC P hh g (args++bn) dst K σ:=rfl
section
variable {dst:Option Tmp} {tt:TypeId} {p:String} {af:Array Edge} {g:Option (Nat×Bool)} {K:St->Prop} {hh:Nat}
def SA(f:Operand)(args:Array Operand)(cm:Array TypeId):yg hh P ⟨dst,.call ⟨.value f,args,cm⟩,tt,p,af,g⟩ σ K=Sy P hh dst (args.toList.map (ev σ)) K σ (ev σ f):=by
 simp only[yg];cases ev σ f<;>rfl
def SD{o:Oper}:eO hh true o σ=true:=by simp[eO]
def SE(t:TypeId)(a:Operand):eO hh false ⟨dst,.load t a,tt,p,af,g⟩ σ=oz hh (ev σ a):=by simp[eO,cls,Op.operands,sP]
def SF(t:TypeId)(a:Operand)(f:Nat):eO hh false ⟨dst,.fieldAddr t a f,tt,p,af,g⟩ σ=oz hh (ev σ a):=by simp[eO,cls,Op.operands,sP]
def SG(a:Operand):eO hh false ⟨dst,.nilCheck a,tt,p,af,g⟩ σ=oz hh (ev σ a):=by simp[eO,cls,Op.operands,sP]
def SH(t:TypeId)(a i:Operand):eO hh false ⟨dst,.indexAddr t a i,tt,p,af,g⟩ σ=(oz hh (ev σ a)&&oz hh (ev σ i)):=by simp[eO,cls,Op.operands,sP]
def SI(x:Operand)(cm:Array TypeId):eO hh false ⟨dst,.call ⟨.builtin .len,#[x],cm⟩,tt,p,af,g⟩ σ=oz hh (ev σ x):=by simp[eO,cls,Op.operands,Call.operands,sP]
def mZ{o:Oper}(h:(cls o.op==0||decide (3<=cls o.op))=true):eO hh false o σ=true:=by simp only[eO,pP,h,Bool.true_or]
def SJ(id r c:Nat):oz hh (.ptr id r c) = !(id==hh):=rfl
def SK(id a b c:Nat):oz hh (.ref id a b c) = !(id==hh):=rfl
def SL(v:Value):oz hh (.lit v)=true:=rfl
def SM(s:Nat)(r:List (List AV)):oz hh (.tree s r)=true:=rfl
def SN(r:List AV):oz hh (.cj r)=true:=rfl
def SO(r:List AV):oz hh (.agg r)=true:=rfl
def SP(r:List AV):oz hh (.bx r)=true:=rfl
def SQ:oz hh .undef=true:=rfl
def SR(x:Operand):eO hh false ⟨dst,.move x,tt,p,af,g⟩ σ=true:=mZ OI
def SS(x:Operand):eO hh false ⟨dst,.assign x,tt,p,af,g⟩ σ=true:=mZ OI
def SU(c a b:Operand):eO hh false ⟨dst,.pick c a b,tt,p,af,g⟩ σ=true:=mZ OI
def SV(op:BinOp)(t:TypeId)(x y:Operand)(yt:TypeId):eO hh false ⟨dst,.binOp op t x y yt,tt,p,af,g⟩ σ=true:=mZ OI
def SX(op:UnOp)(t:TypeId)(x:Operand):eO hh false ⟨dst,.unOp op t x,tt,p,af,g⟩ σ=true:=mZ OI
def SY(fn:Fn)(a b:Array Operand):eO hh false ⟨dst,.makeFunc fn a b,tt,p,af,g⟩ σ=true:=mZ OI
def SZ(s:TypeId)(x:Operand)(f:Nat):eO hh false ⟨dst,.field s x f,tt,p,af,g⟩ σ=true:=mZ OI
def S1(x:Operand)(i:Nat):eO hh false ⟨dst,.extract x i,tt,p,af,g⟩ σ=true:=mZ OI
def S2(t:TypeId)(parts:Array (Nat×Operand)):eO hh false ⟨dst,.build t parts,tt,p,af,g⟩ σ=true:=mZ OI
def S3(e:TypeId):eO hh false ⟨dst,.alloc e,tt,p,af,g⟩ σ=true:=mZ OI
def S4(e:TypeId)(x:Operand):eO hh false ⟨dst,.box e x,tt,p,af,g⟩ σ=true:=mZ OI
def S5(t:TypeId)(l c:Operand):eO hh false ⟨dst,.makeSlice t l c,tt,p,af,g⟩ σ=true:=mZ OI
def S6(t:TypeId)(len:Nat)(parts:Array (Nat×Operand)):eO hh false ⟨dst,.buildSlice t len parts,tt,p,af,g⟩ σ=true:=mZ OI
def S7(t:TypeId)(a x:Operand):eO hh false ⟨dst,.store t a x,tt,p,af,g⟩ σ=true:=mZ OI
def S8(f:Operand)(args:Array Operand)(cm:Array TypeId):eO hh false ⟨dst,.call ⟨.value f,args,cm⟩,tt,p,af,g⟩ σ=true:=mZ OI
def S9(args:Array Operand)(cm:Array TypeId):eO hh false ⟨dst,.call ⟨.builtin .append,args,cm⟩,tt,p,af,g⟩ σ=true:=mZ OI
def Ta(args:Array Operand)(cm:Array TypeId):eO hh false ⟨dst,.call ⟨.builtin .min,args,cm⟩,tt,p,af,g⟩ σ=true:=mZ OI
def Tb(args:Array Operand)(cm:Array TypeId):eO hh false ⟨dst,.call ⟨.builtin .max,args,cm⟩,tt,p,af,g⟩ σ=true:=mZ OI
end
def Hc:=aba @Sr @Ss @Su @Sv @Sw @Sx @Sz (aba @SA @SD @SE @SF @SG @SH @SI (aba @SJ @SK @SL @SM @SN @SO @SP (aba @SQ @SR @SS @SU @SV @SX @SY (aba @SZ @S1 @S2 @S3 @S4 @S5 @S6 (aac @S7 @S8 @S9 @Ta @Tb)))))
def KX{hh:Nat}{f:FuncId}{args dp:List AV}{D D':Ob}{dst:Option Tmp}{K:St->Prop}{res:AV}(h:Holds P f dp [D] res [D'])(h1:yf D=true)(h2:yf D'=true)(h3:σ.aa[hh]?=some D)(h4:kq res=true)(h5:nS (Sj hh) dp args)(hK:K ((⟨σ.env,σ.aa.set hh D'⟩:St).put dst res)):DC P hh f args dst K σ:=⟨dp,D,res,D',h,h1,h2,h3,h4,h5,hK⟩
def px{P:Program}{N n0:Nat}{σ:St}{Q:Exit->St->Prop}(n:Nat){id:Nat}{ops:Array Oper}(hd:fJ N ops=true)(o:Oper)(ho:ops[n]?=some o)(h:∀ K:St->Prop,(∀ s,Q .normal s->K s)->opsL P ops (ops.toList.take n) (DA P o (opsL P ops (ops.toList.drop (n+1)) K)) σ):W P N n0 (.region id ops false) Q σ:=by
 intro os γ0 a w hn aA;refine wp_region ?_;have rh:n<ops.size:=(mM.1 ho).1;have e:aY ops.size=nq 0 (ops.toList.take n).length++(n::nq (n+1) (ops.toList.drop (n+1)).length):=by
  rw[List.range_eq_range',<- List.range'_succ];have:=List.range'_append (s:=0) (m:=n) (n:=(ops.toList.drop (n+1)).length+1) (step:=1);simp only[Nat.zero_add,Nat.one_mul]at this;rw[show(ops.toList.take n).length=n by simp;omega,this];congr 1;simp;omega
 rw[e];refine A6 _ a w ?_;refine vj (sr hd) (K:=DA P o (opsL P ops (ops.toList.drop (n+1)) (Q .normal))) (λσ' a' w' hk cW=>?_) (ops.toList.take n) 0 σ a w (λk hk=>?_) (h _ (λ_ h=>h)) aA
 ·show wpOps P ops _ _ a' w';rw[wpOps_cons];unfold wpOp;simp only[ho];have hw:Region.wanted o (yielded ops a'.tmps)=true:=by simp[Region.wanted,hk.1]
  rw[if_pos hw];left;refine RF hk cW (sr hd o (ik (by simpa using ho))) (λσ2 a2 w2 fK KK=>?_);refine vj (sr hd) (K:=Q .normal) (λKL a3 w3 mX KM=>⟨KL,mX,KM⟩) (ops.toList.drop (n+1)) (n+1) σ2 a2 w2 (λk hk=>?_) fK KK;rw[List.getElem?_drop];simp
 ·simp only[List.length_take,Array.length_toList]at hk;rw[List.getElem?_take_of_lt CZ];simp
end Go.Am
namespace Go.Am
variable {P:Program} {N n0:Nat} {σ:St} {Q:Exit->St->Prop}
def uq:Exit->Bool
 |.normal=>true
 |_=>false
def zN(id:Nat):Exit->Bool
 |.normal=>true
 |.exit j=>j==id
 |_=>false
def GC{e:Exit}(h:uq e=false):e≠.normal:=by intro h2;subst h2;simp[uq]at h
def KY{id:Nat}{e:Exit}(h:zN id e=false):e≠.normal/\e≠.exit id:=by
 constructor
 ·intro h2;subst h2;simp[zN]at h
 ·intro h2;subst h2;simp[zN]at h
theorem rk{id:Nat}{ops:Array Oper}{y:Code}(h:∀ K:St->Prop,(∀ s,W P N n0 y Q s->K s)->opsL P ops ops.toList K σ)(hd:fJ N ops=true:=by decide):W P N n0 (.seq (.region id ops false) y) Q σ:=Kd hd h
theorem KZ{id:Nat}{ops:Array Oper}(h:∀ K:St->Prop,(∀ s,Q .normal s->K s)->opsL P ops ops.toList K σ)(hd:fJ N ops=true:=by decide):W P N n0 (.region id ops false) Q σ:=ad1 hd h
theorem rd{id:Nat}{ops:Array Oper}{y:Code}(h:∀ K:St->Prop,(∀ s,W P N n0 y Q s->K s)->opsL P ops ops.toList K σ)(hm:P.follows .mixedOrders=true:=by rfl)(hd:fJ N ops=true:=by decide)(ht:zj ops=true:=by decide +kernel):W P N n0 (.seq (.region id ops true) y) Q σ:=ad2 hm hd ht h
theorem rde{id:Nat}{ops:Array Oper}(h:∀ K:St->Prop,(∀ s,Q .normal s->K s)->opsL P ops ops.toList K σ)(hm:P.follows .mixedOrders=true:=by rfl)(hd:fJ N ops=true:=by decide)(ht:zj ops=true:=by decide +kernel):W P N n0 (.region id ops true) Q σ:=ad3 hm hd ht h
theorem rb{id:Nat}{ops:Array Oper}{y:Code}(h:∀ K:St->Prop,(∀ s,W P N n0 y Q s->K s)->sN P ops ops.toList K σ)(hm:P.follows .mixedOrders=true:=by rfl)(hd:fJ N ops=true:=by decide)(ht:Gu ops=true:=by decide +kernel):W P N n0 (.seq (.region id ops true) y) Q σ:=afm hm hd ht h
theorem DF{id:Nat}{ops:Array Oper}(h:∀ K:St->Prop,(∀ s,Q .normal s->K s)->sN P ops ops.toList K σ)(hm:P.follows .mixedOrders=true:=by rfl)(hd:fJ N ops=true:=by decide)(ht:Gu ops=true:=by decide +kernel):W P N n0 (.region id ops true) Q σ:=afn hm hd ht h
theorem ra{id:Nat}{ops:Array Oper}{y:Code}(h:∀ K:St->Prop,(∀ s,W P N n0 y Q s->K s)->sM P ops ops.toList K σ)(hm:P.follows .mixedOrders=true:=by rfl)(hd:fJ N ops=true:=by decide)(ht:Gt ops=true:=by decide +kernel):W P N n0 (.seq (.region id ops true) y) Q σ:=afj hm hd ht h
theorem DG{id:Nat}{ops:Array Oper}(h:∀ K:St->Prop,(∀ s,Q .normal s->K s)->sM P ops ops.toList K σ)(hm:P.follows .mixedOrders=true:=by rfl)(hd:fJ N ops=true:=by decide)(ht:Gt ops=true:=by decide +kernel):W P N n0 (.region id ops true) Q σ:=afk hm hd ht h
def Wk{x y:Code}(h:∀ Q':Exit->St->Prop,(∀ s,W P N n0 y Q s->Q' .normal s)->(∀ e s,uq e=false->Q e s->Q' e s)->W P N n0 x Q' σ):W P N n0 (.seq x y) Q σ :=
 W_k λQ' h1 h2=>h Q' h1 λe s he=>h2 e s (GC he)
def Wb{id:Nat}{c:Code}(h:∀ Q':Exit->St->Prop,(∀ s,Q .normal s->Q' .normal s)->(∀ s,Q .normal s->Q' (.exit id) s)->(∀ e s,zN id e=false->Q e s->Q' e s)->W P N n0 c Q' σ):W P N n0 (.block id c) Q σ :=
 adY λQ' h1 h2 h3=>h Q' h1 h2 λe s he=>h3 e s (KY he).1 (KY he).2
theorem Wc{c:Operand}{x y:Code}{t:Bool}(ht:t=true->W P N n0 x Q σ)(hf:t=false->W P N n0 y Q σ)(hc:ev σ c=.lit (.bool t):=by(simp only[Go.Am.r8,Go.Am.Lc,↓reduceIte,Nat.reduceEqDiff,Nat.reduceBEq];exact rfl)):W P N n0 (.cond c x y) Q σ:=Rg hc ht hf
def bd{α:Type}{c:Code}(S:α->St)(I:α->Prop)(M:α->Nat)(x0:α)(hI:I x0)(h0:aH n0 σ (S x0))(round:∀ x,I x->∀ Q':Exit->St->Prop,(∀ s y,I y->M y<M x->aH n0 s (S y)->Q' .normal s)->(∀ e s,uq e=false->Q e s->Q' e s)->W P N n0 c Q' (S x)):W P N n0 (.loop c) Q σ :=
 adX S I M x0 hI h0 λx hx Q' h1 h2=>round x hx Q' h1 λe s he=>h2 e s (GC he)
end Go.Am
namespace Go.Am
variable {P:Program} {N n0:Nat} {σ:St} {Q:Exit->St->Prop}
end Go.Am
namespace Go.Am
variable {P:Program} {N n0:Nat} {σ:St} {Q:Exit->St->Prop}
class Head (p:Prop):Prop where
 on:True
section
variable {ops:Array Oper} {o:Oper} {l:List Oper} {K:St->Prop}
instance:Head (opsL P ops (o::l) K σ):=⟨trivial⟩
instance {qs:List Nat}{t:PT}:Head (jE P ops qs t K σ):=⟨trivial⟩
instance {qs:List Nat}{i:Nat}:Head (rn P ops qs i (o::l) K σ):=⟨trivial⟩
instance:Head (sM P ops (o::l) K σ):=⟨trivial⟩
instance:Head (sN P ops (o::l) K σ):=⟨trivial⟩
end
def gO{p:Prop}[Head p](h:p):p:=h
class GD (p:Prop) (b:outParam Bool) (A B:outParam Prop):Prop where
 sp:(b=true->A)->(b=false->B)->p
instance {o:Oper}{K:St->Prop}{b want:Bool}:GD (oe P o K b want σ) b (oe P o K true want σ) (oe P o K false want σ):=⟨aeo⟩
instance {q:Bool}{o:Oper}{K:St->Prop}{b want:Bool}:GD (oZ q P o K b want σ) b (oZ q P o K true want σ) (oZ q P o K false want σ):=⟨adV⟩
def gS{p:Prop}{b:Bool}{A B:Prop}[h:GD p b A B](h1:b=true->A)(h2:b=false->B):p:=h.sp h1 h2
def GF:Code->Option Exit
 |.skip=>some .normal
 |.label _=>some .normal
 |.exit id=>some (.exit id)
 |.ret=>some .ret
 |_=>none
def Wz{c:Code}{e:Exit}(hc:GF c=some e)(h:Q e σ):W P N n0 c Q σ:=by
 cases c<;>simp[GF]at hc;all_goals subst hc
 all_goals first|exact Rf h|exact aek h|exact ael h|exact aej h
def GG(P:Program)(d:Bool)(ops:Array Oper):Bool:=!d||(P.follows .mixedOrders&&zj ops)
theorem rr{id:Nat}{ops:Array Oper}{d:Bool}{y:Code}(h:∀ K:St->Prop,(∀ s,W P N n0 y Q s->K s)->opsL P ops ops.toList K σ)(ht:GG P d ops=true:=by decide +kernel)(hd:fJ N ops=true:=by decide):W P N n0 (.seq (.region id ops d) y) Q σ:=by
 cases d
 ·exact rk h hd
 ·have h2:P.follows .mixedOrders=true/\zj ops=true:=by simpa [GG] using ht
  exact rd h h2.1 hd h2.2
theorem qw{id:Nat}{ops:Array Oper}{d:Bool}(h:∀ K:St->Prop,(∀ s,Q .normal s->K s)->opsL P ops ops.toList K σ)(ht:GG P d ops=true:=by decide +kernel)(hd:fJ N ops=true:=by decide):W P N n0 (.region id ops d) Q σ:=by
 cases d
 ·exact KZ h hd
 ·have h2:P.follows .mixedOrders=true/\zj ops=true:=by simpa [GG] using ht
  exact rde h h2.1 hd h2.2
class DH (rows:List (List AV)) (sz:outParam Nat):Prop where
 wid:∀ row∈rows,row.length=sz
 cJ:∀ row∈rows,∀ v∈row,(∃ x,v=AV.lit x)\/∃ s r,v=AV.tree s r
instance (xs:List Int):DH (ints xs) 1:=⟨x7 _,Bf _⟩
instance (xs:List Bool):DH (br xs) 1:=⟨JT _,QT _⟩
instance (xs:List (List Int)):DH (fe xs) 1:=⟨ad5 _,ad4 _⟩
instance {α:Type}{enc:α->List AV}{sz:Nat}[Row enc sz](xs:List α):DH (rowsOf enc xs) sz:=⟨pw _,zG _⟩
theorem cC.fz{kp:Nat->Prop}{ρ:Nat->Nat}{id sz len:Nat}{rows:List (List AV)}[h:DH rows sz](ho:σ.aa[id]?=some (.arr sz rows))(hl:len=rows.length)(rZ:¬ kp id:=by first|exact rY (by decide)|decide):cC σ kp ρ true (.tree sz rows) (.ref id sz 0 len):=cC.cJ ho h.wid hl rZ h.cJ
theorem aH.se(ak:List Nat)(snap:Bool){l:List (Nat×AV)}{co:List Ob}(ho:oY (bq σ.aa.length ak) σ.aa ak co)(h:ss (cC σ (kept ak co) (bq σ.aa.length ak) snap) σ.env l)(bT:ak.Nodup:=by decide)(hn:n0<=ak.length:=by decide)(bV:∀ i,i<n0->ak.getD i 0=i:=by decide):aH n0 σ ⟨Am.ar l,co⟩:=aH.ak ak snap l co bT ho hn bV h
theorem afF(ak:List Nat)(snap:Bool){v res:AV}{bb:List Ob}(ho:oY (bq σ.aa.length ak) σ.aa ak bb)(h:cC σ (kept ak bb) (bq σ.aa.length ak) snap res v)(bT:ak.Nodup:=by decide)(hn:n0<=ak.length:=by decide)(bV:∀ i,i<n0->ak.getD i 0=i:=by decide):nR n0 σ v res bb:=xS ak snap bT ho hn bV h
end Go.Am
namespace Go.Am
def Td:gv []=.bx []:=rfl
def Te(a b:AV)(l:List AV):gv (a::b::l)=.bx (a::b::l):=rfl
end Go.Am
namespace Go.Am
variable {P:Program} {N n0:Nat} {σ:St}
inductive PF where
 |nil
 |take (i:Nat) (t:PF)
 |both (i:Nat) (t:PF) (j:Nat) (u:PF)
 |three (i:Nat) (t:PF) (j:Nat) (u:PF) (k:Nat) (v:PF)
 |four (i:Nat) (t:PF) (j:Nat) (u:PF) (k:Nat) (v:PF) (l:Nat) (w:PF)
def PF.ok(ops:Array Oper)(qs:List Nat):PF->Nat->Array Bool->Bool
 |.nil,n,aG=>n==0&&(Region.ready .any ops aG).isEmpty
 |.take _ _,0,_=>false
 |.take i t,n+1,aG=>FL ops qs aG i (JJ ops i)&&t.ok ops qs n (aG.setIfInBounds i true)
 |.both _ _ _ _,0,_=>false
 |.both i t j u,n+1,aG=>(Region.ready .any ops aG==[i,j])&&t.ok ops qs n (aG.setIfInBounds i true)&&u.ok ops qs n (aG.setIfInBounds j true)
 |.three _ _ _ _ _ _,0,_=>false
 |.three i t j u k v,n+1,aG=>(Region.ready .any ops aG==[i,j,k])&&t.ok ops qs n (aG.setIfInBounds i true)&&u.ok ops qs n (aG.setIfInBounds j true)&&v.ok ops qs n (aG.setIfInBounds k true)
 |.four _ _ _ _ _ _ _ _,0,_=>false
 |.four i t j u k v l w,n+1,aG=>(Region.ready .any ops aG==[i,j,k,l])&&t.ok ops qs n (aG.setIfInBounds i true)&&u.ok ops qs n (aG.setIfInBounds j true)&&v.ok ops qs n (aG.setIfInBounds k true)&&w.ok ops qs n (aG.setIfInBounds l true)
def ju(P:Program)(ops:Array Oper)(qs:List Nat):PF->(St->Prop)->St->Prop
 |.nil,K,σ=>K σ
 |.take i t,K,σ=>cp P ops qs i (ju P ops qs t K) σ
 |.both i t j u,K,σ=>cp P ops qs i (ju P ops qs t K) σ/\cp P ops qs j (ju P ops qs u K) σ
 |.three i t j u k v,K,σ=>cp P ops qs i (ju P ops qs t K) σ/\cp P ops qs j (ju P ops qs u K) σ/\cp P ops qs k (ju P ops qs v K) σ
 |.four i t j u k v l w,K,σ=>cp P ops qs i (ju P ops qs t K) σ/\cp P ops qs j (ju P ops qs u K) σ/\cp P ops qs k (ju P ops qs v K) σ/\cp P ops qs l (ju P ops qs w K) σ
def ur{ops:Array Oper}{qs:List Nat}{K:St->Prop}:∀ (t:PF) (n:Nat) (aG:Array Bool) (σ:St),t.ok ops qs n aG=true->ju P ops qs t K σ->ub P ops qs K n aG σ
 |.nil,n,aG,σ,h,hp=>by
  simp only[PF.ok,a7,beq_iff_eq,OP]at h;obtain⟨rfl,h⟩:=h;exact⟨h,hp⟩
 |.take _ _,0,_,_,h,_=>by simp[PF.ok]at h
 |.take i t,n+1,aG,σ,h,hp=>by
  simp only[PF.ok,a7]at h;exact QN h.1 (mQ (λs hs=>ur t n _ s h.2 hs) hp)
 |.both _ _ _ _,0,_,_,h,_=>by simp[PF.ok]at h
 |.both i t j u,n+1,aG,σ,h,hp=>by
  simp only[PF.ok,a7,beq_iff_eq]at h;obtain⟨⟨h1,h2⟩,h3⟩:=h;refine⟨λe=>by rw[h1]at e;simp at e,λk hk=>?_⟩;rw[h1]at hk;simp only[a8,iJ,or_false]at hk;rcases hk with rfl|rfl
  ·exact mQ (λs hs=>ur t n _ s h2 hs) hp.1
  ·exact mQ (λs hs=>ur u n _ s h3 hs) hp.2
 |.three _ _ _ _ _ _,0,_,_,h,_=>by simp[PF.ok]at h
 |.three i t j u k v,n+1,aG,σ,h,hp=>by
  simp only[PF.ok,a7,beq_iff_eq]at h;obtain⟨⟨⟨h1,h2⟩,h3⟩,h4⟩:=h;refine⟨λe=>by rw[h1]at e;simp at e,λx hk=>?_⟩;rw[h1]at hk;simp only[a8,iJ,or_false]at hk;rcases hk with rfl|rfl|rfl
  ·exact mQ (λs hs=>ur t n _ s h2 hs) hp.1
  ·exact mQ (λs hs=>ur u n _ s h3 hs) hp.2.1
  ·exact mQ (λs hs=>ur v n _ s h4 hs) hp.2.2
 |.four _ _ _ _ _ _ _ _,0,_,_,h,_=>by simp[PF.ok]at h
 |.four i t j u k v l w,n+1,aG,σ,h,hp=>by
  simp only[PF.ok,a7,beq_iff_eq]at h;obtain⟨⟨⟨⟨h1,h2⟩,h3⟩,h4⟩,h5⟩:=h;refine⟨λe=>by rw[h1]at e;simp at e,λx hk=>?_⟩;rw[h1]at hk;simp only[a8,iJ,or_false]at hk;rcases hk with rfl|rfl|rfl|rfl
  ·exact mQ (λs hs=>ur t n _ s h2 hs) hp.1
  ·exact mQ (λs hs=>ur u n _ s h3 hs) hp.2.1
  ·exact mQ (λs hs=>ur v n _ s h4 hs) hp.2.2.1
  ·exact mQ (λs hs=>ur w n _ s h5 hs) hp.2.2.2
def afG{id:Nat}{ops:Array Oper}{Q:Exit->St->Prop}(qs:List Nat)(t:PF)(hm:P.follows .mixedOrders=true)(hd:fJ N ops=true)(ht:t.ok ops qs ops.size (uW ops.size false)=true)(h:ju P ops qs t (Q .normal) σ):W P N n0 (.region id ops true) Q σ :=
 QL qs hm hd (ur t _ _ σ ht h)
section
variable {ops:Array Oper} {qs:List Nat} {K:St->Prop} {i j k l:Nat} {t u v w:PF}
def sQ:ju P ops qs .nil K σ=K σ:=rfl
def uu:ju P ops qs (.take i t) K σ=cp P ops qs i (ju P ops qs t K) σ:=rfl
def uv:ju P ops qs (.both i t j u) K σ=(cp P ops qs i (ju P ops qs t K) σ/\cp P ops qs j (ju P ops qs u K) σ):=rfl
def uw:ju P ops qs (.three i t j u k v) K σ=(cp P ops qs i (ju P ops qs t K) σ/\cp P ops qs j (ju P ops qs u K) σ/\cp P ops qs k (ju P ops qs v K) σ):=rfl
def ux:ju P ops qs (.four i t j u k v l w) K σ=(cp P ops qs i (ju P ops qs t K) σ/\cp P ops qs j (ju P ops qs u K) σ/\cp P ops qs k (ju P ops qs v K) σ/\cp P ops qs l (ju P ops qs w K) σ):=rfl
end
end Go.Am

