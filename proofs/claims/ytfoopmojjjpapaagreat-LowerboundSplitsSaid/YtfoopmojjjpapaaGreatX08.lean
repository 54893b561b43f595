import Derived.Test.YtfoopmojjjpapaaGreatX07
import Derived.Laws.StructEq
set_option linter.all false
set_option maxHeartbeats 0
set_option maxRecDepth 20000
open List renaming drop_drop→KS,take_append_drop→Eu,map_cons→ez,range→bn,contains_iff_mem→ny,mem_filter→AR,mem_range→nB,tail_drop→G',getElem?_append_left→fe,getElem?_append_right→iq,all_eq_true→gA,mem_cons→bu,mem_of_getElem?→hZ,map_congr_left→tZ,mem_append→cG,not_mem_nil→iI,range'→mU
open Bool renaming false_eq_true→jB,and_eq_true→bc,eq_iff_iff→mz,not_eq_true'→kq,true_and→ic,false_and→rI,false_or→oO,or_eq_true→lQ
open Array renaming getElem?_eq_some_iff→nA,toList_append→CM,replicate→w0
namespace Go.Am
variable {P:Program}
def zV(P:Program):List Field->Nat->Nat->Bool
 |[],o,n=>o==n
 |f::fs,o,n=>f.offset==o&&zV P fs (o+P.cellsOf f.type) n
def xA(P:Program):Nat->TypeId->Bool
 |0,_=>false
 |d+1,t =>
  match P.underlying t with
  |some (.int .i64)=>P.cellsOf t==1
  | some (.struct fs) => (P.info? t).isSome && !P.stoodInHeld t && zV P fs.toList 0 (P.cellsOf t) && fs.toList.all λf => f.name != "_" && xA P d f.type
  |_=>false
def xB(P:Program)(t:TypeId)(xs:List Int):Value :=
 match P.underlying t with
 |some (.struct _)=>.agg (xs.map (Value.int .i64)).toArray
 |_=>.int .i64 (xs.getD 0 0)
def Tx{as bs:List Int}{o c:Nat}(h:as.length=bs.length):as.drop o=bs.drop o↔(as.drop o).take c=(bs.drop o).take c/\as.drop (o+c)=bs.drop (o+c):=by
 constructor
 ·intro e;refine⟨by rw[e],?_⟩;rw[<- KS,<- KS,e]
 ·rintro⟨e1,e2⟩;rw[<- KS,<- KS]at e2;rw[<- Eu c (as.drop o),<- Eu c (bs.drop o),e1,e2]
def Tz(w:World){d:Nat}{t:TypeId}(h:xA P d t=true){as:List Int}{o:Nat}(ho:o+P.cellsOf t<=as.length):
  (part t (as.map (Value.int .i64)).toArray o).run P w=.ok (xB P t ((as.drop o).take (P.cellsOf t))) w:=by
 cases d with
 |zero=>simp[xA]at h
 |succ d =>
  unfold xA at h;cases hu:P.underlying t with
  |none=>simp[hu]at h
  |some k =>
   rw[hu]at h;cases k<;>try(simp at h;done)
   case int q =>
    cases q<;>try(simp at h;done)
    have hc:P.cellsOf t=1:=by simpa using h
    rw[hc]at ho;have hx:((as.map (Value.int .i64)).toArray)[o]?=some (.int .i64 (as.getD o 0)):=by
     have:o<as.length:=Ey;simp[this]
    simp only[part,isAgg,Sem.run_bind,run_underlying hu,Result.andThen_ok,Sem.run_pure,jB,if_false,Sem.run_ite,hx];have:o<as.length:=Ey;simp[xB,hu,hc,this]
   case struct fs =>
    simp only[bc]at h;obtain⟨i,hi⟩:=Option.isSome_iff_exists.1 h.1.1.1;have hs:∀ w,(sizeOf t).run P w=.ok (P.cellsOf t) w:=λw=>by
     simp[sizeOf,typeInfo,Program.cellsOf,hi,run_program]
    simp only[part,isAgg,Sem.run_bind,run_underlying hu,Result.andThen_ok,Sem.run_pure,if_true,Sem.run_ite,hs];simp only[xB,hu];congr 2;simp[List.map_take,List.map_drop]
def TA{D d:Nat}(ih:∀ t,xA P d t=true->∀ (w:World) (as bs:List Int),as.length=P.cellsOf t->bs.length=P.cellsOf t->(Op.equalIn (D+d) t (xB P t as) (xB P t bs)).run P w=.ok (decide (as=bs)) w){as bs:List Int}(hl:as.length=bs.length):
  ∀ (fs : List Field) (o : Nat) (w : World), zV P fs o as.length = true -> (fs.all λf => f.name != "_" && xA P d f.type) = true ->
   o+(fs.map λf=>P.cellsOf f.type).sum=as.length->(Op.eqFields (D+d) (as.map (Value.int .i64)).toArray (bs.map (Value.int .i64)).toArray fs).run P w=.ok (decide (as.drop o=bs.drop o)) w
 |[],o,w,ht,_,hs=>by
  have:o=as.length:=by simpa [zV] using ht
  subst this;have:bs.drop as.length=[]:=List.drop_eq_nil_of_le Ey;simp[Op.eqFields,this]
 |f::fs,o,w,ht,ha,hs=>by
  simp only[zV,bc,beq_iff_eq]at ht;obtain⟨rfl,ht⟩:=ht;simp only[List.all_cons,bc,bne_iff_ne]at ha;simp only[ez,List.sum_cons]at hs;have h1:=Tz (as:=as) w ha.1.2 (o:=f.offset) Ey;have h2:=Tz (as:=bs) w ha.1.2 (o:=f.offset) Ey;have h3:=ih f.type ha.1.2 w ((as.drop f.offset).take (P.cellsOf f.type)) ((bs.drop f.offset).take (P.cellsOf f.type)) Hj Hj;have h4:=TA ih hl fs (f.offset+P.cellsOf f.type) w ht ha.2 Ey;simp only[Op.eqFields];rw[if_pos ha.1.1];simp only[Sem.run_bind,h1,h2,h3,Result.andThen_ok,Sem.run_ite,Sem.run_pure,h4];by_cases he:(as.drop f.offset).take (P.cellsOf f.type)=(bs.drop f.offset).take (P.cellsOf f.type)
  ·rw[decide_eq_true he];simp only[Bool.not_true,jB,if_false];congr 1;rw[decide_eq_decide,Tx (o:=f.offset) (c:=P.cellsOf f.type) hl];simp[he]
  ·rw[decide_eq_false he];simp only[Bool.not_false,if_true];congr 1;rw[eq_comm,decide_eq_false_iff_not,Tx (o:=f.offset) (c:=P.cellsOf f.type) hl];exact λh=>he h.1
def TB:∀ (fs:List Field) (o n:Nat),zV P fs o n=true->o+(fs.map λf=>P.cellsOf f.type).sum=n
 |[],o,n,h=>by simpa [zV] using h
 |f::fs,o,n,h=>by
  simp only[zV,bc,beq_iff_eq]at h;have:=TB fs _ n h.2;simp only[ez,List.sum_cons];omega
def TC(D:Nat):∀ (d:Nat) (t:TypeId),xA P d t=true->∀ (w:World) (as bs:List Int),as.length=P.cellsOf t->bs.length=P.cellsOf t->(Op.equalIn (D+d) t (xB P t as) (xB P t bs)).run P w=.ok (decide (as=bs)) w
 |0,t,h=>by simp[xA]at h
 |d+1,t,h=>by
  intro w as bs ha hb;unfold xA at h;cases hu:P.underlying t with
  |none=>simp[hu]at h
  |some k =>
   rw[hu]at h;cases k<;>try(simp at h;done)
   case int q =>
    cases q<;>try(simp at h;done)
    have hc:P.cellsOf t=1:=by simpa using h
    rw[hc]at ha hb
    match as,bs,ha,hb with
    |[a],[b],_,_ =>
     simp only[xB,hu,List.getD_cons_zero];rw[show D+(d+1)=(D+d)+1 from rfl,run_equalIn_int w (D+d) t .i64 .i64 a b hu];congr 1;rw[mz];simp
   case struct fs =>
    simp only[bc,kq]at h;have hf:P.fieldsOf t=fs:=by simp[Program.fieldsOf,hu]
    simp only[xB,hu];rw[show D+(d+1)=(D+d)+1 from rfl,run_equalIn_struct w (D+d) t _ _ (by rw[hf];exact hu) h.1.1.2,hf];have:=TA (D:=D) (TC D d) (as:=as) (bs:=bs) Ey fs.toList 0 w (by rw[ha];exact h.1.2) h.2 (by rw[ha];exact TB _ _ _ h.1.2);simpa using this
def H'(P:Program)(d:Nat)(t:TypeId)(n:Nat):Bool :=
 (match P.underlying t with|some (.struct _)=>true|_=>false)&&decide (d<=10000)&&xA P d t&&(P.cellsOf t==n)
def xj.of{t:TypeId}(d:Nat){n:Nat}(h:H' P d t n=true):xj P t n:=by
 intro w as bs ha hb;simp only[H',bc,decide_eq_true_eq,beq_iff_eq]at h;obtain⟨⟨⟨h1,hd⟩,h2⟩,h3⟩:=h;have:=TC (10000-d) d t h2 w as bs Ey Ey;rw[Nat.sub_add_cancel hd]at this;cases hu:P.underlying t with
 |none=>rw[hu]at h1;simp at h1
 |some k =>
  cases k<;>rw[hu]at h1<;>try(simp at h1;done)
  simpa only[xB,hu] using this
end Go.Am
namespace Go.Am
variable {P:Program} {N n0:Nat} {σ:St} {Q:Exit->St->Prop}
def v8(o:Oper):Bool :=
 match o.op with
 |.call c=>match c.callee with
  |.value _=>true
  |_=>false
 |_=>false
def Di(ops:Array Oper):List Nat:=(bn ops.size).filter λi=>match ops[i]? with|some o=>v8 o|none=>false
def uH(P:Program)(ops:Array Oper):List Oper->(St->Prop)->St->Prop
 |[],K,σ=>K σ
 |o::r,K,σ=>eC P ops (v8 o) o (uH P ops r K) σ
def TD{ops:Array Oper}{K:St->Prop}:uH P ops [] K σ=K σ:=by simp only[uH]
def My{ops:Array Oper}{o:Oper}{r:List Oper}{K:St->Prop}:uH P ops (o::r) K σ=eC P ops (v8 o) o (uH P ops r K) σ:=by simp only[uH]
def ag1{ops:Array Oper}{i:Nat}{o:Oper}(h:ops[i]?=some o):(Di ops).contains i=v8 o:=by
 have hi:i<ops.size:=(nA.1 h).1;rw[mz,ny];simp only[Di,AR,nB,hi,true_and,h]
def Mz{ops:Array Oper}{K:St->Prop}:∀ (l:List Oper) (i:Nat) (σ:St),ops.toList.drop i=l->uH P ops l K σ->tw P ops (Di ops) i l K σ
 |[],i,σ,_,h=>h
 |o::r,i,σ,hl,h=>by
  have hi:ops[i]?=some o:=by
   have:(ops.toList.drop i)[0]?=some o:=by rw[hl];rfl
   simpa using this
  have hr:ops.toList.drop (i+1)=r:=by
   have:=congrArg List.tail hl;simpa [G'] using this
  rw[H7,ag1 hi];rw[My]at h;exact EL (λs hs=>Mz r (i+1) s hr hs) h
def Ia(ops:Array Oper):Bool:=H8 ops (Di ops)
def ag2{id:Nat}{ops:Array Oper}{y:Code}(hm:P.follows .mixedOrders=true)(hd:fP N ops=true)(ht:Ia ops=true)(h:∀ K:St->Prop,(∀ s,W P N n0 y Q s->K s)->uH P ops ops.toList K σ):
  W P N n0 (.seq (.region id ops true) y) Q σ :=
 Tw (Di ops) hm hd ht λK hK=>Mz ops.toList 0 σ rfl (h K hK)
def ag3{id:Nat}{ops:Array Oper}(hm:P.follows .mixedOrders=true)(hd:fP N ops=true)(ht:Ia ops=true)(h:∀ K:St->Prop,(∀ s,Q .normal s->K s)->uH P ops ops.toList K σ):
  W P N n0 (.region id ops true) Q σ :=
 H9 (Di ops) hm hd ht λK hK=>Mz ops.toList 0 σ rfl (h K hK)
def yG:List Oper->Bool
 |[]=>false
 |o::r=>v8 o||yG r
def Dj(ops:Array Oper):List Nat:=(bn ops.size).filter λi=>match ops[i]? with|some o=>v8 o&&yG (ops.toList.drop (i+1))|none=>false
def uI(P:Program)(ops:Array Oper):List Oper->(St->Prop)->St->Prop
 |[],K,σ=>K σ
 |o::r,K,σ=>eC P ops (v8 o&&yG r) o (uI P ops r K) σ
def TE{ops:Array Oper}{K:St->Prop}:uI P ops [] K σ=K σ:=by simp only[uI]
def MA{ops:Array Oper}{o:Oper}{r:List Oper}{K:St->Prop}:uI P ops (o::r) K σ=eC P ops (v8 o&&yG r) o (uI P ops r K) σ:=by simp only[uI]
def ag4{ops:Array Oper}{i:Nat}{o:Oper}{r:List Oper}(h:ops[i]?=some o)(hr:ops.toList.drop (i+1)=r):(Dj ops).contains i=(v8 o&&yG r):=by
 have hi:i<ops.size:=(nA.1 h).1;rw[mz,ny];simp only[Dj,AR,nB,hi,true_and,h,hr]
def MC{ops:Array Oper}{K:St->Prop}:∀ (l:List Oper) (i:Nat) (σ:St),ops.toList.drop i=l->uI P ops l K σ->tw P ops (Dj ops) i l K σ
 |[],i,σ,_,h=>h
 |o::r,i,σ,hl,h=>by
  have hi:ops[i]?=some o:=by
   have:(ops.toList.drop i)[0]?=some o:=by rw[hl];rfl
   simpa using this
  have hr:ops.toList.drop (i+1)=r:=by
   have:=congrArg List.tail hl;simpa [G'] using this
  rw[H7,ag4 hi hr];rw[MA]at h;exact EL (λs hs=>MC r (i+1) s hr hs) h
def Ib(ops:Array Oper):Bool:=H8 ops (Dj ops)
def ag5{id:Nat}{ops:Array Oper}{y:Code}(hm:P.follows .mixedOrders=true)(hd:fP N ops=true)(ht:Ib ops=true)(h:∀ K:St->Prop,(∀ s,W P N n0 y Q s->K s)->uI P ops ops.toList K σ):
  W P N n0 (.seq (.region id ops true) y) Q σ :=
 Tw (Dj ops) hm hd ht λK hK=>MC ops.toList 0 σ rfl (h K hK)
def ag6{id:Nat}{ops:Array Oper}(hm:P.follows .mixedOrders=true)(hd:fP N ops=true)(ht:Ib ops=true)(h:∀ K:St->Prop,(∀ s,Q .normal s->K s)->uI P ops ops.toList K σ):
  W P N n0 (.region id ops true) Q σ :=
 H9 (Dj ops) hm hd ht λK hK=>MC ops.toList 0 σ rfl (h K hK)
def Holds.empty{f:FuncId}{sz:Nat}{pre post:List AV}{aa bh:List Ob}{res:AV}(h:∀ a cap,Holds P f (pre++.lit (.slice a 0 cap)::post) aa res bh):Holds P f (pre++.tree sz []::post) aa res bh:=by
 refine⟨(h none 0).1,λγ aO hs=>?_⟩;have jO:=hs.ar pre.length;have he:(pre++.tree sz []::post).getD pre.length .undef=.tree sz []:=G9;rw[show(⟨λk=>(pre++AV.tree sz []::post).getD k .undef,aa⟩:St).env pre.length=.tree sz [] from he]at jO;obtain⟨a,cap,aW⟩:∃a cap,γ.tmps.getD pre.length Go.undef=.slice a 0 cap:=by
  generalize γ.tmps.getD pre.length Go.undef=cv at jO;have:=jO.Bb;cases this with
  |nil _ cap a=>exact⟨a,cap,rfl⟩
  |tree _ _ b o cap f=>exact⟨_,cap,rfl⟩
 refine(h a cap).2 γ (by simpa using aO) ⟨λk=>?_,hs.ec,hs.inj,hs.nz,hs.gV,hs.gl⟩;by_cases hk:k=pre.length
 ·subst hk;show aw aa γ.w γ.Z γ.blk ((pre++.lit (.slice a 0 cap)::post).getD pre.length .undef) _;rw[show(pre++AV.lit (.slice a 0 cap)::post).getD pre.length .undef=.lit (.slice a 0 cap) by simp,aW];exact .lit _
 ·have:=hs.ar k;show aw aa γ.w γ.Z γ.blk ((pre++.lit (.slice a 0 cap)::post).getD k .undef) _;have e:(pre++AV.lit (.slice a 0 cap)::post).getD k .undef=(pre++AV.tree sz []::post).getD k .undef:=by
   simp only[List.getD_eq_getElem?_getD];congr 1;rcases Nat.lt_or_ge k pre.length with h'|h'
   ·rw[fe h',fe h']
   ·rw[iq h',iq h'];obtain⟨j,hj⟩:∃j,k-pre.length=j+1:=⟨k-pre.length-1,Ey⟩;rw[hj];simp
  rw[e];exact this
def aD.TF(d sz:Nat){a:Option Addr}{cap:Nat}(h:σ.env d=.lit (.slice a 0 cap)):aD n0 σ ⟨jP σ.env d (.tree sz []),σ.aa⟩:=by
 intro os γ0 γ _ hs hf;refine⟨γ,rfl,rfl,⟨λk=>?_,hs.ec,hs.inj,hs.nz,hs.gV,hs.gl⟩,hf⟩;show aw σ.aa γ.w γ.Z γ.blk (jP σ.env d (.tree sz []) k) _;by_cases hk:k=d
 ·subst hk;have:=hs.ar k;rw[h]at this;rw[af7,this.cO];exact .cN _ _ (.nil sz cap a)
 ·rw[jP,if_neg hk];exact hs.ar k
end Go.Am
namespace Go.Am
def Ic(k:IntKind)(n:Int):eS (.int k n)=.lit (.int k n):=by first|rfl|(cases b<;>rfl)|(simp only[eS];done)|(unfold gF;split<;>simp_all)
def Ie(b:Bool):eS (.bool b)=.lit (.bool b):=by first|rfl|(cases b<;>rfl)|(simp only[eS];done)|(unfold gF;split<;>simp_all)
def Ig(a:Option Addr)(n c:Nat):eS (.slice a n c)=.lit (.slice a n c):=by first|rfl|(cases b<;>rfl)|(simp only[eS];done)|(unfold gF;split<;>simp_all)
def Ih(s:ByteArray):eS (.string s)=.lit (.string s):=by first|rfl|(cases b<;>rfl)|(simp only[eS];done)|(unfold gF;split<;>simp_all)
def Ii(s:Array Value):eS (.tuple s)=.lit (.tuple s):=by first|rfl|(cases b<;>rfl)|(simp only[eS];done)|(unfold gF;split<;>simp_all)
def TG(ρ:Nat->Nat)(v:Value):br ρ (.lit v)=.lit v:=by first|rfl|(cases b<;>rfl)|(simp only[eS];done)|(unfold gF;split<;>simp_all)
def TH(ρ:Nat->Nat)(s:Nat)(r:List (List AV)):br ρ (.tree s r)=.tree s r:=by first|rfl|(cases b<;>rfl)|(simp only[eS];done)|(unfold gF;split<;>simp_all)
def TI(ρ:Nat->Nat)(r:List AV):br ρ (.b6 r)=.b6 r:=by first|rfl|(cases b<;>rfl)|(simp only[eS];done)|(unfold gF;split<;>simp_all)
def TJ(ρ:Nat->Nat):br ρ .undef=.undef:=by first|rfl|(cases b<;>rfl)|(simp only[eS];done)|(unfold gF;split<;>simp_all)
def TK(v:Value):cellsOf (.lit v)=[.lit v]:=by first|rfl|(cases b<;>rfl)|(simp only[eS];done)|(unfold gF;split<;>simp_all)
def TL(s:Nat)(r:List (List AV)):cellsOf (.tree s r)=[.tree s r]:=by first|rfl|(cases b<;>rfl)|(simp only[eS];done)|(unfold gF;split<;>simp_all)
def TM(r:List AV):cellsOf (.b6 r)=[.b6 r]:=by first|rfl|(cases b<;>rfl)|(simp only[eS];done)|(unfold gF;split<;>simp_all)
def TN(a b c d:Nat):cellsOf (.ref a b c d)=[.ref a b c d]:=by first|rfl|(cases b<;>rfl)|(simp only[eS];done)|(unfold gF;split<;>simp_all)
def TO(a b c:Nat):cellsOf (.ptr a b c)=[.ptr a b c]:=by first|rfl|(cases b<;>rfl)|(simp only[eS];done)|(unfold gF;split<;>simp_all)
def TP(id:Nat):cellsOf (.dD id)=[.dD id]:=rfl
def TQ(t:TypeId)(v:AV):cellsOf (.iU t v)=[.iU t v]:=rfl
def TR(f:FuncId)(l:List AV):cellsOf (.fn f l)=[.fn f l]:=by first|rfl|(cases b<;>rfl)|(simp only[eS];done)|(unfold gF;split<;>simp_all)
def TS(t:Bool)(s:Array Value)(b:AV):gF t (.lit (.tuple s)) b=if t=true then .lit (.tuple s) else b:=by first|rfl|(cases b<;>rfl)|(simp only[eS];done)|(unfold gF;split<;>simp_all)
def TT(t:Bool)(s:Array Value)(b:AV):gF t b (.lit (.tuple s))=if t=true then b else .lit (.tuple s):=by first|rfl|(cases b<;>rfl)|(simp only[eS];done)|(unfold gF;split<;>simp_all)
def TU(t:Bool)(s u:List AV):gF t (.agg s) (.agg u)=if t=true then .agg s else .agg u:=by first|rfl|(cases b<;>rfl)|(simp only[eS];done)|(unfold gF;split<;>simp_all)
def TV(l:List AV):dh (.agg l)=false:=by first|rfl|(cases b<;>rfl)|(simp only[eS];done)|(unfold gF;split<;>simp_all)
def TW(l:List AV):dh (.bC l)=false:=by first|rfl|(cases b<;>rfl)|(simp only[eS];done)|(unfold gF;split<;>simp_all)
def TX  : dh .undef=false:=by first|rfl|(cases b<;>rfl)|(simp only[eS];done)|(unfold gF;split<;>simp_all)
def TY(k:IntKind)(n:Int):Value.oneCell' (.int k n)=true:=by first|rfl|(cases b<;>rfl)|(simp only[eS];done)|(unfold gF;split<;>simp_all)
def TZ(b:Bool):Value.oneCell' (.bool b)=true:=by first|rfl|(cases b<;>rfl)|(simp only[eS];done)|(unfold gF;split<;>simp_all)
def T1(a:Option Addr)(n c:Nat):Value.oneCell' (.slice a n c)=true:=by first|rfl|(cases b<;>rfl)|(simp only[eS];done)|(unfold gF;split<;>simp_all)
def T2(s:ByteArray):Value.oneCell' (.string s)=true:=by first|rfl|(cases b<;>rfl)|(simp only[eS];done)|(unfold gF;split<;>simp_all)
def T3(a:Option Addr):Value.oneCell' (.pointer a)=true:=by first|rfl|(cases b<;>rfl)|(simp only[eS];done)|(unfold gF;split<;>simp_all)
def T4(a:Option Nat):Value.oneCell' (.map a)=true:=by first|rfl|(cases b<;>rfl)|(simp only[eS];done)|(unfold gF;split<;>simp_all)
def Pc:=aaP @CT.eq_1 @CT.eq_2 @zB.eq_1 @zB.eq_2 @CU.eq_1 @CU.eq_2 @rK.eq_1 (aaP @rK.eq_2 @rK.eq_3 @K9.eq_1 @La.eq_1 @iu.eq_1 @iu.eq_2 @iu.eq_3 (aaP @iu.eq_4 @iu.eq_5 @iu.eq_6 @iu.eq_7 @iu.eq_8 @iu.eq_9 @iu.eq_10 (aaP @iu.eq_11 @iu.eq_12 @iu.eq_13 @nI.eq_1 @eC.eq_1 @rK.eq_4 @Tm (QZ @Tn @To @Tp))))
def Sc:=aaP @ev.eq_1 @ev.eq_2 @ev.eq_3 @ev.eq_4 @eS.eq_1 @St.put.eq_1 @St.put.eq_2 (aaP @xh.eq_1 @xh.eq_2 @xi.eq_1 @xi.eq_2 @gF.eq_1 @j9.eq_1 @j9.eq_2 (aaP @fF.eq_1 @fF.eq_2 @br.eq_1 @br.eq_2 @br.eq_3 @br.eq_4 @br.eq_5 (aaP @br.eq_6 @pL.eq_1 @pL.eq_2 @bE.eq_1 @rowOf.eq_1 @pG.eq_1 @oT.eq_1 (aaP @oT.eq_2 @mB.eq_1 @mB.eq_2 @cellsOf.eq_1 @setCells.eq_1 @setCells.eq_2 @nG.eq_1 (aaP @nG.eq_2 @nH.eq_1 @nH.eq_2 @dh.eq_1 @dh.eq_2 @dh.eq_3 @dh.eq_4 (aaP @dh.eq_5 @dh.eq_6 @Ty.isAgg.eq_1 @Value.oneCell'.eq_1 @Value.oneCell'.eq_2 @v8.eq_1 @yG.eq_1 (aaP @yG.eq_2 @ao.eq_1 @cB.eq_1 @aT.eq_1 @aI.eq_1 @rX.eq_1 @dz.eq_1 (aaP @bf.eq_1 @qK.eq_1 @qK.eq_2 @H7 @Tv @My @TD (aaP @MA @TE @ic @rI @Ic @Ie @Ig (aaP @Ih @Ii @TG @TH @TI @TJ @TK (aaP @TL @TM @TN @TO @TR @TS @TT (aaP @TU @TV @TW @TX @TY @TZ @T1 (aaP @T2 @T3 @T4 @dh.eq_7 @TQ @Rk @RM (aaP @RN @K'.eq_1 @qJ.eq_1 @qJ.eq_2 @br.eq_7 @dh.eq_8 @TP (aaP @RF @RG @RH @RL @RJ @RK @Rb (Q4 @mW.eq_1 @keyOf.eq_1 @keyOf.eq_2 @kQ.eq_1))))))))))))))))
def Lc:=aaP @ev.eq_1 @ev.eq_2 @ev.eq_3 @ev.eq_4 @eS.eq_1 @St.put.eq_1 @St.put.eq_2 (aaI @Ic @Ie @Ig @Ih @Ii)
def dW{P:Program}{N n0:Nat}(id:Nat){ops:Array Oper}{d:Bool}{y:Code}{Q:Exit->St->Prop}{σ:St}(h:W P N n0 (.seq (.region id ops d) y) Q σ):W P N n0 (.seq (.region id ops d) y) Q σ:=h
def dX{P:Program}{N n0:Nat}(id:Nat){ops:Array Oper}{d:Bool}{Q:Exit->St->Prop}{σ:St}(h:W P N n0 (.region id ops d) Q σ):W P N n0 (.region id ops d) Q σ:=h
end Go.Am
namespace Go.Am
variable {P:Program} {N n0:Nat} {σ:St}
def zW:Ob->Bool
 |.gone=>false
 |.var cs=>mZ cs
 |.arr _ rows=>rows.all mZ
 |.mp _ _=>false
def T5{ρ:Nat->Nat}{o:Ob}(h:zW o=true):bO ρ o=o:=by
 cases o with
 |gone=>simp[zW]at h
 |var cs =>
  have:=C4 ρ cs h;rw[yA]at this;simp[bO,this]
 |arr sz rows=>exact EM (by simpa [zW,gA] using h)
 |mp ag L=>simp[zW]at h
def T6(hd:Nat)(c a:AV):Prop:=(a=c/\lr c=true)\/(c=.ptr 0 0 0/\a=.ptr hd 0 0)
def Fa(P:Program)(hd:Nat)(g:FuncId)(args:List AV)(dst:Option Tmp)(K:St->Prop)(σ:St):Prop :=
 ∃ dO D res D',Holds P g dO [D] res [D']/\zW D=true/\zW D'=true/\σ.aa[hd]?=some D/\lr res=true/\jN (T6 hd) dO args/\K ((⟨σ.env,σ.aa.set hd D'⟩:St).put dst res)
def ag7{hd:Nat}{g:FuncId}{args:List AV}{dst:Option Tmp}{K:St->Prop}(h:Fa P hd g args dst K σ):uf P g args dst K σ:=by
 obtain⟨dO,D,res,D',h1,h2,h3,h4,h5,h6,h7⟩:=h;obtain⟨h8,h9⟩:=h6.spec;have hρ:bE σ.aa.length [hd] 0=hd:=by simp[bE]
 refine⟨[hd],false,dO,[D],res,[D'],h1,⟨G9,rfl,λj o hj=>?_,h8,λj c d hc vQ=>?_,G9⟩,?_⟩
 ·cases j with
  |zero=>simp at hj;subst hj;simp[T5 h2,h4]
  |succ j=>simp at hj
 ·rcases h9 j c d hc vQ with⟨rfl,hn⟩|⟨rfl,rfl⟩
  ·exact .pure hn
  ·exact .eq (by simp[br,hρ])
 ·have e:fF σ.aa [hd] ([D'].map (bO (bE σ.aa.length [hd])))=σ.aa.set hd D':=by simp[fF,T5 h3]
  show K (({ σ with aa:=fF σ.aa [hd] ([D'].map (bO (bE σ.aa.length [hd]))) }:St).put dst (br (bE σ.aa.length [hd]) res));rw[e,A8 _ _ h5];exact h7
def zX(hd:Nat)(P:Program)(o:Oper)(σ:St)(K:St->Prop):Prop :=
 match o.op with
 |.call { callee:=.value f,args,.. } =>
  match ev σ f with
  |.fn g bF=>Fa P hd g (args.toList.map (ev σ)++bF) o.dst K σ
  |_=>False
 |_=>False
def ag9{hd:Nat}{o:Oper}{K:St->Prop}(h:zX hd P o σ K):aL P o σ K:=by
 unfold zX at h;unfold aL;split at h
 ·rename_i f args cI cT;simp only[cT];split at h
  ·rename_i g bF he;simp only[he];exact ag7 h
  ·exact h.elim
 ·exact h.elim
def pV(hd:Nat):AV->Bool
 |.ptr id _ _=>id != hd
 |.ref id _ _ _=>id != hd
 |.dD id=>id != hd
 |_=>true
def uJ(hd:Nat)(σ:St):List Operand->Bool
 |[]=>true
 |x::l=>pV hd (ev σ x)&&uJ hd σ l
def fk(hd:Nat)(q:Bool)(o:Oper)(σ:St):Bool:=q||cls o.op==0||decide (3<=cls o.op)||uJ hd σ o.op.operands.toList
def T7{hd:Nat}:∀ {l:List Operand},uJ hd σ l=true->∀ x∈l,pQ (ev σ x)≠some hd
 |[],_,x,hx=>by simp at hx
 |y::l,h,x,hx=>by
  simp only[uJ,bc]at h;rcases bu.1 hx with rfl|hx
  ·intro e;have h1:=h.1;cases hv:ev σ x<;>rw[hv]at e h1<;>simp[pQ,pV]at e h1
   ·exact h1 e
   ·exact h1 e
   ·exact h1 e
  ·exact T7 h.2 x hx
def MD{hd:Nat}{σ2:St}:∀ {l:List Operand},(∀ x∈l,ev σ2 x=ev σ x)->uJ hd σ2 l=uJ hd σ l
 |[],_=>rfl
 |y::l,h=>by
  simp only[uJ];rw[h y G9,MD λx hx=>h x (by simp[hx])]
def lD(P:Program)(ops:Array Oper)(hd:Nat)(q dc:Bool)(o:Oper)(K:St->Prop)(σ:St):Prop :=
 match dc with
 |true=>o.guard=none/\zX hd P o σ K
 |false=>fk hd q o σ=true/\eC P ops q o K σ
def db(q dc:Bool)(o:Oper):Nat:=if dc then 6 else fH q o
def Fb(hd c:Nat)(a b:List Ob):Prop:=if c=6 then ∀ id,id≠hd->b[id]?=a[id]? else ly c a b
def aha{N:Nat}{os:List Ob}{γ0:Cx}{ops:Array Oper}{hh:Nat}(hd:∀ o∈ops.toList,∀ d,o.dst=some d->d<N){q dc:Bool}{i:Nat}{o:Oper}(hi:ops[i]?=some o){σ:St}{K:St->Prop}(h:lD P ops hh q dc o K σ){a:Act}{w:World}(az:gp N os γ0 σ a w){Q:Exit->Act->World->Prop}{next:Act->World->Prop}(hn:∀ σ' a' w',K σ'->gp N os γ0 σ' a' w'->next a' w'):wpOp P ops Q i next a w:=by
 cases dc with
 |false=>exact Lk hd hi h.2 az hn
 |true =>
  have bR:o∈ops.toList:=hZ (by simpa using hi);unfold wpOp;simp only[hi];have hw:Region.wanted o (yielded ops a.tmps)=true:=by simp[Region.wanted,h.1]
  rw[if_pos hw];left;exact yy (ag9 h.2) az (hd o bR) hn
def Ij{ops:Array Oper}{hh:Nat}{q dc:Bool}{o:Oper}{σ:St}{K:St->Prop}(hW:lD P ops hh q dc o K σ):
  ∃ v os,Fb hh (db q dc o) σ.aa os/\K ((⟨σ.env,os⟩:St).put o.dst v)/\∀ (e2:Nat->AV) (K2:St->Prop),(∀ t∈o.looksAt ops,e2 t=σ.env t)->K2 ((⟨e2,os⟩:St).put o.dst v)->lD P ops hh q dc o K2 ⟨e2,σ.aa⟩:=by
 cases dc with
 |false =>
  obtain⟨hc,hW⟩:=hW;obtain⟨v,os,h1,h2,h3⟩:=C0 hW;refine⟨v,os,?_,h2,λe2 K2 hl hK=>⟨?_,h3 e2 K2 hl hK⟩⟩
  ·unfold Fb db;simp only[jB,if_false];rw[if_neg]
   ·exact h1
   ·unfold fH;split
    ·omega
    ·unfold cls;split<;>omega
  ·unfold fk at hc ⊢;rw[MD (σ:=σ) (uo hl)];exact hc
 |true =>
  obtain⟨hg,hW⟩:=hW;unfold zX at hW;split at hW
  ·rename_i f args cI cT;split at hW
   ·rename_i g bF he;obtain⟨dO,D,res,D',h1,h2,h3,h4,h5,h6,h7⟩:=hW;refine⟨res,σ.aa.set hh D',?_,h7,λe2 K2 hl hK=>⟨hg,?_⟩⟩
    ·unfold Fb db;simp only[if_true];intro id bZ;rw[List.getElem?_set,if_neg (Ne.symm bZ)]
    ·unfold zX;simp only[cT];have hx:=uo (os:=σ.aa) hl;have e1:ev ⟨e2,σ.aa⟩ f=.fn g bF:=by rw[<- he];exact hx f (by simp[cT,Op.operands,Call.operands])
     have e3:args.toList.map (ev ⟨e2,σ.aa⟩)=args.toList.map (ev σ):=tZ λy hy=>hx y (by simp only[cT,Op.operands,Call.operands,CM,cG];exact .inr hy);simp only[e1,e3];exact⟨dO,D,res,D',h1,h2,h3,h4,h5,h6,hK⟩
   ·exact hW.elim
  ·exact hW.elim
def ahb{o:Oper}{σ:St}{K:St->Prop}(hc:cls o.op<=2)(hW:aL P o σ K):
  ∃ v,K (σ.put o.dst v)/\∀ (σ2:St) (K2:St->Prop),(∀ x∈o.op.operands.toList,ev σ2 x=ev σ x)->(∀ x∈o.op.operands.toList,∀ id,pQ (ev σ x)=some id->iM (cls o.op) σ.aa[id]? σ2.aa[id]?)->K2 (σ2.put o.dst v)->aL P o σ2 K2:=by
 unfold aL at hW ⊢;split at hW
 ·rename_i f args cI cT;rw[cT]at hc;simp[cls]at hc
 ·rename_i r m args cI cT;rw[cT]at hc;simp[cls]at hc
 ·rename_i cE;obtain⟨v,h2,h3⟩:=Sz hc hW;refine⟨v,h2,λσ2 K2 hx ho hK=>?_⟩;exact h3 σ2 K2 hx (ho) hK
def T8{q:Bool}{o:Oper}{σ:St}{K:St->Prop}(hc:fH q o<=2)(hW:mV q P o σ K):
  ∃ v,K (σ.put o.dst v)/\∀ (σ2:St) (K2:St->Prop),(∀ x∈o.op.operands.toList,ev σ2 x=ev σ x)->(∀ x∈o.op.operands.toList,∀ id,pQ (ev σ x)=some id->iM (fH q o) σ.aa[id]? σ2.aa[id]?)->K2 (σ2.put o.dst v)->mV q P o σ2 K2:=by
 cases q with
 |false=>exact ahb hc hW
 |true =>
  unfold mV at hW ⊢;simp only at hW ⊢;split at hW
  ·rename_i f args cI cT;simp only[cT];split at hW
   ·rename_i g bF he;obtain⟨res,h1,h2,h3,h4⟩:=hW;refine⟨res,h4,λσ2 K2 hx _ hK=>?_⟩;have e1:ev σ2 f=.fn g bF:=by rw[<- he];exact hx f (by simp[Op.operands,Call.operands])
    have e3:args.toList.map (ev σ2)=args.toList.map (ev σ):=tZ λy hy=>hx y (by simp only[Op.operands,Call.operands,CM,cG];exact .inr hy);simp only[e1,e3];exact⟨res,h1,h2,h3,hK⟩
   ·exact hW.elim
  ·rename_i t a cT;obtain⟨x,h1,h2⟩:=Lj hW;refine⟨x,h1,λσ2 K2 hx _ hK=>?_⟩;rw[hx a (by simp[cT,Op.operands])];exact h2 _ K2 hK
  ·exact hW.elim
def T9{ops:Array Oper}{q:Bool}{o:Oper}{σ:St}{K:St->Prop}(hc:fH q o<=2)(hW:eC P ops q o K σ):
  ∃ v,K (σ.put o.dst v)/\∀ (σ2:St) (K2:St->Prop),(∀ t∈o.looksAt ops,σ2.env t=σ.env t)->(∀ x∈o.op.operands.toList,∀ id,pQ (ev σ x)=some id->iM (fH q o) σ.aa[id]? σ2.aa[id]?)->K2 (σ2.put o.dst v)->eC P ops q o K2 σ2:=by
 unfold eC at hW ⊢;cases hg:o.guard with
 |none =>
  simp only[hg]at hW;obtain⟨v,h2,h3⟩:=T8 hc hW;exact⟨v,h2,λσ2 K2 hl ho hK=>h3 σ2 K2 (uo (e2:=σ2.env) (os:=σ2.aa) hl) ho hK⟩
 |some jw =>
  obtain⟨j,want⟩:=jw;simp only[hg]at hW;cases eB:(ops[j]?).bind (·.dst) with
  |none=>simp[eB]at hW
  |some d =>
   simp only[eB]at hW;split at hW
   ·rename_i b he;by_cases ig:b=want
    ·obtain⟨v,h2,h3⟩:=T8 hc (hW.1 ig);refine⟨v,h2,λσ2 K2 hl ho hK=>?_⟩;have:σ2.env d=.lit (.bool b):=by rw[hl d (yz hg eB)];exact he
     simp only[eB,this];exact⟨λ_=>h3 σ2 K2 (uo (e2:=σ2.env) (os:=σ2.aa) hl) ho hK,λhn=>absurd ig hn⟩
    ·refine⟨.lit (.tuple #[]),hW.2 ig,λσ2 K2 hl ho hK=>?_⟩;have:σ2.env d=.lit (.bool b):=by rw[hl d (yz hg eB)];exact he
     simp only[eB,this];exact⟨λhn=>absurd hn ig,λ_=>hK⟩
   ·rename_i vs he;refine⟨.lit (.tuple #[]),hW.2,λσ2 K2 hl ho hK=>?_⟩;have:σ2.env d=.lit (.tuple vs):=by rw[hl d (yz hg eB)];exact he
    simp only[eB,this];exact⟨hW.1,hK⟩
   ·exact hW.elim
def T'{ops:Array Oper}{hh:Nat}{q dc:Bool}{o:Oper}{σ:St}{K:St->Prop}(hc:db q dc o<=2)(hW:lD P ops hh q dc o K σ):
  ∃ v,K (σ.put o.dst v)/\∀ (σ2:St) (K2:St->Prop),(∀ t∈o.looksAt ops,σ2.env t=σ.env t)->(∀ (id:Nat),id≠hh->iM (db q dc o) σ.aa[id]? σ2.aa[id]?)->K2 (σ2.put o.dst v)->lD P ops hh q dc o K2 σ2:=by
 cases dc with
 |true=>simp[db]at hc
 |false =>
  obtain⟨hk,hW⟩:=hW;have gq:fH q o<=2:=by simpa [db] using hc
  obtain⟨v,h1,h2⟩:=T9 gq hW;refine⟨v,h1,λσ2 K2 hl ho hK=>⟨?_,h2 σ2 K2 hl (λx hx id hp=>?_) hK⟩⟩
  ·unfold fk at hk ⊢;rw[MD (σ:=σ) (uo (e2:=σ2.env) (os:=σ2.aa) hl)];exact hk
  ·have cz:∀ id,id≠hh->iM (fH q o) σ.aa[id]? σ2.aa[id]?:=by simpa [db] using ho
   by_cases h0:fH q o=0
   ·rw[h0];simp[iM]
   ·refine cz id λe=>?_;subst e;unfold fH at h0 gq;split at h0
    ·omega
    ·rename_i hq;simp only[hq]at gq;have xC:q=false:=by simpa using hq
     subst xC;unfold fk at hk;have zT:cls o.op<=2:=by simpa using gq
     have h3:decide (3<=cls o.op)=false:=decide_eq_false Ey;have h4:(cls o.op==0)=false:=by simpa using h0
     rw[h3,h4]at hk;simp only[oO]at hk;exact T7 hk x hx hp
def BA(ci ck:Nat):Bool:=A5 ci ck||(decide (ci<=2)&&ck==6)
def ahc{hh ci ck:Nat}(h:(ci==0||(ci==1&&decide (ck<=4))||(ci==2&&decide (ck<=3))||(decide (ci<=2)&&ck==6))=true){a b:List Ob}(he:Fb hh ck a b)(id:Nat)(bZ:id≠hh):iM ci a[id]? b[id]?:=by
 unfold Fb at he;split at he
 ·rename_i h6;subst h6;rw[he id bZ];unfold iM;split
  ·trivial
  ·split
   ·intro o ho;exact⟨o,ho,zH o⟩
   ·intro o ho;exact ho
 ·rename_i h6;refine Lm ?_ he id;have:(ck==6)=false:=by simpa using h6
  rw[this]at h;simpa using h
def ahd{ops:Array Oper}{hh:Nat}{qi qk di dk:Bool}{oi ok:Oper}(ha:oi.apart ops ok=true)(hi:db qi di oi<=2)(hc:(db qi di oi==0||(db qi di oi==1&&decide (db qk dk ok<=4))||(db qi di oi==2&&decide (db qk dk ok<=3))||(decide (db qi di oi<=2)&&db qk dk ok==6))=true){σ:St}{K:St->Prop}(h:lD P ops hh qi di oi (lD P ops hh qk dk ok K) σ):lD P ops hh qk dk ok (lD P ops hh qi di oi K) σ:=by
 obtain⟨a1,a2,a3⟩:=Oper.apart_spec ha;obtain⟨v,h1,run⟩:=T' hi h;obtain⟨vk,os,vN,h2,zI⟩:=Ij h1;rw[C2]at vN zI;refine zI σ.env _ (λt ht=>(uq λd hd e=>a1 d hd (e▸ht)).symm) ?_;refine run _ _ (λt ht=>?_) (λid bZ=>?_) ?_
 ·rw[uq λd hd e=>a3 d hd (e▸ht)]
 ·rw[C2];exact ahc hc vN id bZ
 ·rw[C3]at h2;rw[C1 (λd hd e=>a2 d e hd)];exact h2
def ahe{ops:Array Oper}{hh:Nat}{qi qk di dk:Bool}{oi ok:Oper}(ha:oi.apart ops ok=true)(hk:db qk dk ok=0){σ:St}{K:St->Prop}(h:lD P ops hh qi di oi (lD P ops hh qk dk ok K) σ):lD P ops hh qk dk ok (lD P ops hh qi di oi K) σ:=by
 obtain⟨a1,a2,a3⟩:=Oper.apart_spec ha;obtain⟨vi,os,vN,h1,run⟩:=Ij h;obtain⟨vk,h2,EK⟩:=T' Ey h1;refine EK σ _ (λt ht=>(uq (σ:=⟨σ.env,os⟩) λd hd e=>a1 d hd (e▸ht)).symm) (λid _=>by rw[hk];simp[iM]) ?_;rw[Ll];refine run _ _ (λt ht=>uq λd hd e=>a3 d hd (e▸ht)) ?_;rw[C3,C1 (λd hd e=>a2 d e hd)];exact h2
def ahf{ops:Array Oper}{hh:Nat}{qi qk di dk:Bool}{oi ok:Oper}(ha:oi.apart ops ok=true)(hc:BA (db qi di oi) (db qk dk ok)=true){σ:St}{K:St->Prop}(h:lD P ops hh qi di oi (lD P ops hh qk dk ok K) σ):lD P ops hh qk dk ok (lD P ops hh qi di oi K) σ:=by
 by_cases hk:db qk dk ok=0
 ·exact ahe ha hk h
 ·have gq:(db qi di oi==0||(db qi di oi==1&&decide (db qk dk ok<=4))||(db qi di oi==2&&decide (db qk dk ok<=3))||(decide (db qi di oi<=2)&&db qk dk ok==6))=true:=by
   simp only[BA,A5,lQ,bc,beq_iff_eq,decide_eq_true_eq]at hc ⊢;rcases hc with(((h|h)|h)|h)|h
   ·exact .inl (.inl (.inl h))
   ·exact absurd h hk
   ·exact .inl (.inl (.inr h))
   ·exact .inl (.inr h)
   ·exact .inr h
  refine ahd ha ?_ gq h;simp only[lQ,bc,beq_iff_eq,decide_eq_true_eq]at gq;omega
def gM(P:Program)(ops:Array Oper)(hh:Nat)(qs ds:List Nat)(i:Nat)(K:St->Prop)(σ:St):Prop :=
 match ops[i]? with
 |none=>K σ
 |some o=>lD P ops hh (qs.contains i) (ds.contains i) o K σ
def xD(P:Program)(ops:Array Oper)(hh:Nat)(qs ds:List Nat)(K:St->Prop):Nat->Array Bool->St->Prop
 |0,aH,σ=>Region.ready .any ops aH=[]/\K σ
 |n+1,aH,σ=>(Region.ready .any ops aH=[]->K σ)/\∀ i∈Region.ready .any ops aH,gM P ops hh qs ds i (xD P ops hh qs ds K n (aH.setIfInBounds i true)) σ
def ahg{ops:Array Oper}{hh:Nat}{q dc:Bool}{o:Oper}{σ:St}{K K2:St->Prop}(hk:∀ s,K s->K2 s)(h:lD P ops hh q dc o K σ):lD P ops hh q dc o K2 σ:=by
 obtain⟨v,os,_,h2,run⟩:=Ij h;exact run σ.env K2 (λ_ _=>rfl) (hk _ h2)
def ahh{ops:Array Oper}{hh:Nat}{q dc:Bool}{o:Oper}{σ:St}{K:St->Prop}(h:lD P ops hh q dc o K σ):∃s,K s:=by
 obtain⟨v,os,_,h2,run⟩:=Ij h;exact⟨_,h2⟩
def zY{ops:Array Oper}{hh:Nat}{qs ds:List Nat}{i:Nat}{σ:St}{K K2:St->Prop}(hk:∀ s,K s->K2 s)(h:gM P ops hh qs ds i K σ):gM P ops hh qs ds i K2 σ:=by
 unfold gM at h ⊢;split at h
 ·exact hk _ h
 ·exact ahg hk h
def ahi{ops:Array Oper}{hh:Nat}{qs ds:List Nat}{i:Nat}{σ:St}{K:St->Prop}(h:gM P ops hh qs ds i K σ):∃s,K s:=by
 unfold gM at h;split at h
 ·exact⟨_,h⟩
 ·exact ahh h
def ME{os:List Ob}{γ0:Cx}{ops:Array Oper}{hh:Nat}{qs ds:List Nat}(hd:∀ o∈ops.toList,∀ d,o.dst=some d->d<N){K:St->Prop}{Q:Exit->Act->World->Prop}(hQ:∀ σ' a' w',K σ'->gp N os γ0 σ' a' w'->Q .normal a' w'):∀ (n:Nat) (aH:Array Bool) (σ:St) (a:Act) (w:World),xD P ops hh qs ds K n aH σ->gp N os γ0 σ a w->wpAny P .any ops Q n aH a w
 |0,aH,σ,a,w,h,az=>⟨h.1,hQ _ _ _ h.2 az⟩
 |n+1,aH,σ,a,w,h,az=>by
  refine⟨λhr=>hQ _ _ _ (h.1 hr) az,λi hi=>?_⟩;have:=h.2 i hi;unfold gM at this;split at this
  ·rename_i au;unfold wpOp;simp only[au];exact ME hd hQ n _ _ _ _ this az
  ·rename_i o au;exact aha hd au this az λσ' a' w' hK c8=>ME hd hQ n _ _ _ _ hK c8
def ahj{id:Nat}{ops:Array Oper}{Q:Exit->St->Prop}(hh:Nat)(qs ds:List Nat)(hm:P.follows .mixedOrders=true)(hd:fP N ops=true)(h:xD P ops hh qs ds (Q .normal) ops.size (w0 ops.size false) σ):W P N n0 (.region id ops true) Q σ:=by
 intro os γ0 a w _ az;refine wp_region_any hm ?_;exact ME (oV hd) (K:=Q .normal) (λσ' a' w' hK c8=>⟨σ',hK,c8⟩) _ _ _ _ _ h az.drawn
def ahk{ops:Array Oper}{hh:Nat}{qs ds:List Nat}{K:St->Prop}{i:Nat}{o:Oper}(hi:ops[i]?=some o)(D:List Nat)(SG:i∈D)(hD:∀ j∈D,j=i\/∃ oj,ops[j]?=some oj/\∃ e∈oj.after,Region.binds .any e=true/\e.on∈D):∀ (fuel:Nat) (aH:Array Bool) (σ:St),(∀ j∈D,aH.getD j true=false) ->
   i∈Region.ready .any ops aH ->
   (∀ j oj,ops[j]?=some oj->aH.getD j true=false->j ∉ D->o.apart ops oj=true/\BA (db (qs.contains i) (ds.contains i) o) (db (qs.contains j) (ds.contains j) oj)=true) ->
   gM P ops hh qs ds i (xD P ops hh qs ds K fuel (aH.setIfInBounds i true)) σ->xD P ops hh qs ds K (fuel+1) aH σ:=by
 intro fuel
 induction fuel with
 |zero =>
  intro aH σ hu hr lz h;refine⟨λe=>by rw[e]at hr;simp at hr,λk hk=>?_⟩;by_cases fR:k=i
  ·subst fR;exact h
  ·obtain⟨s,hs⟩:=ahi h;have:=ready_mono hk fR;rw[hs.1]at this;simp at this
 |succ m ih =>
  intro aH σ hu hr lz h;refine⟨λe=>by rw[e]at hr;simp at hr,λk hk=>?_⟩;by_cases fR:k=i
  ·subst fR;exact h
  ·have A6:=mem_ready.1 hk;obtain⟨eF,ok,az,ei⟩:=A6;have rN:k ∉ D:=by
    intro rN;rcases hD k rN with e|⟨oj,iN,e,he,hb,ur⟩
    ·exact fR e
    ·rw[az]at iN;simp only[Option.some.injEq]at iN;subst iN;have h1:=ei e he hb;have h2:=hu e.on ur;rw[Array.getD_eq_getD_getElem?]at h1 h2;cases hx:aH[e.on]? with
     |none=>rw[hx]at h1;simp at h1
     |some b=>rw[hx]at h1 h2;simp at h1 h2;rw[h1]at h2;simp at h2
   obtain⟨ha,hc⟩:=lz k ok az eF rN;have h1:gM P ops hh qs ds i (gM P ops hh qs ds k (xD P ops hh qs ds K m ((aH.setIfInBounds i true).setIfInBounds k true))) σ :=
    zY (λs hs=>hs.2 k (ready_mono hk fR)) h
   have h2:gM P ops hh qs ds k (gM P ops hh qs ds i (xD P ops hh qs ds K m ((aH.setIfInBounds i true).setIfInBounds k true))) σ:=by
    unfold gM at h1 ⊢;simp only[hi,az]at h1 ⊢;exact ahf ha hc h1
   refine zY (λs hs=>?_) h2;refine ih (aH.setIfInBounds k true) s (λj hj=>?_) (ready_mono hr (Ne.symm fR)) (λj oj iN hl pJ=>?_) ?_
   ·have cE:k≠j:=λe=>rN (by rw[e];exact hj);rw[getD_set_ne _ cE];exact hu j hj
   ·refine lz j oj iN ?_ pJ;by_cases zJ:k=j
    ·subst zJ;exact eF
    ·rwa [getD_set_ne _ zJ]at hl
   ·rw[Array.setIfInBounds_comm _ _ (Ne.symm fR)]at hs;exact hs
def Fc(ops:Array Oper)(qs ds:List Nat)(aH:Array Bool)(i:Nat)(D:List Nat):Bool :=
 match ops[i]? with
 |none=>false
 |some o =>
  D.contains i&&D.all (λj=>j==i||match ops[j]? with|some oj=>oj.after.any (λe=>Region.binds .any e&&D.contains e.on)|none=>false) &&
  D.all (λj=>!aH.getD j true)&&o.after.all (λe=>!Region.binds .any e||aH.getD e.on false) &&
  (bn ops.size).all λj=>D.contains j||aH.getD j true||match ops[j]? with|some oj=>o.apart ops oj&&BA (db (qs.contains i) (ds.contains i) o) (db (qs.contains j) (ds.contains j) oj)|none=>true
def ahl{ops:Array Oper}{hh:Nat}{qs ds:List Nat}{K:St->Prop}{i:Nat}{D:List Nat}{fuel:Nat}{aH:Array Bool}(h:Fc ops qs ds aH i D=true)(hs:gM P ops hh qs ds i (xD P ops hh qs ds K fuel (aH.setIfInBounds i true)) σ):xD P ops hh qs ds K (fuel+1) aH σ:=by
 unfold Fc at h;cases hi:ops[i]? with
 |none=>simp[hi]at h
 |some o =>
  simp only[hi,bc,gA,ny,lQ,beq_iff_eq,kq]at h;obtain⟨⟨⟨⟨h1,h2⟩,h3⟩,h4⟩,h5⟩:=h;refine ahk hi D h1 (λj hj=>?_) fuel aH σ h3 ?_ ?_ hs
  ·rcases h2 j hj with h|h
   ·exact .inl h
   ·right;split at h
    ·rename_i oj iN;rw[Array.any_eq_true']at h;obtain⟨e,he,hb⟩:=h;simp only[bc,ny]at hb;exact⟨oj,iN,e,he,hb.1,hb.2⟩
    ·simp at h
  ·rw[mem_ready];refine⟨h3 i h1,o,hi,λe he hb=>?_⟩;rw[Array.all_eq_true']at h4;have:=h4 e he;simpa [hb] using this
  ·intro j oj iN hl pJ;have hj:j<ops.size:=(nA.1 iN).1;rcases h5 j (nB.2 hj) with(h|h)|h
   ·exact absurd h pJ
   ·rw[hl]at h;simp at h
   ·simpa [iN] using h
def PT.kU(ops:Array Oper)(qs ds:List Nat):PT->Nat->Array Bool->Bool
 |.nil,n,aH=>n==0&&(Region.ready .any ops aH).isEmpty
 |.take _ _,0,_=>false
 |.take i t,n+1,aH=>Fc ops qs ds aH i (Lo ops i)&&t.kU ops qs ds n (aH.setIfInBounds i true)
 |.both _ _ _ _,0,_=>false
 |.both i t j u,n+1,aH=>(Region.ready .any ops aH==[i,j])&&t.kU ops qs ds n (aH.setIfInBounds i true)&&u.kU ops qs ds n (aH.setIfInBounds j true)
 |.three _ _ _ _ _ _,0,_=>false
 |.three i t j u k v,n+1,aH=>(Region.ready .any ops aH==[i,j,k])&&t.kU ops qs ds n (aH.setIfInBounds i true)&&u.kU ops qs ds n (aH.setIfInBounds j true)&&v.kU ops qs ds n (aH.setIfInBounds k true)
def oA(P:Program)(ops:Array Oper)(hh:Nat)(qs ds:List Nat):PT->(St->Prop)->St->Prop
 |.nil,K,σ=>K σ
 |.take i t,K,σ=>gM P ops hh qs ds i (oA P ops hh qs ds t K) σ
 |.both i t j u,K,σ=>gM P ops hh qs ds i (oA P ops hh qs ds t K) σ/\gM P ops hh qs ds j (oA P ops hh qs ds u K) σ
 |.three i t j u k v,K,σ=>gM P ops hh qs ds i (oA P ops hh qs ds t K) σ/\gM P ops hh qs ds j (oA P ops hh qs ds u K) σ/\gM P ops hh qs ds k (oA P ops hh qs ds v K) σ
def BC{ops:Array Oper}{hh:Nat}{qs ds:List Nat}{K:St->Prop}:∀ (t:PT) (n:Nat) (aH:Array Bool) (σ:St),t.kU ops qs ds n aH=true->oA P ops hh qs ds t K σ->xD P ops hh qs ds K n aH σ
 |.nil,n,aH,σ,h,hp=>by
  simp only[PT.kU,bc,beq_iff_eq,List.isEmpty_iff]at h;obtain⟨rfl,h⟩:=h;exact⟨h,hp⟩
 |.take _ _,0,_,_,h,_=>by simp[PT.kU]at h
 |.take i t,n+1,aH,σ,h,hp=>by
  simp only[PT.kU,bc]at h;exact ahl h.1 (zY (λs hs=>BC t n _ s h.2 hs) hp)
 |.both _ _ _ _,0,_,_,h,_=>by simp[PT.kU]at h
 |.both i t j u,n+1,aH,σ,h,hp=>by
  simp only[PT.kU,bc,beq_iff_eq]at h;obtain⟨⟨h1,h2⟩,h3⟩:=h;refine⟨λe=>by rw[h1]at e;simp at e,λk hk=>?_⟩;rw[h1]at hk;simp only[bu,iI,or_false]at hk;rcases hk with rfl|rfl
  ·exact zY (λs hs=>BC t n _ s h2 hs) hp.1
  ·exact zY (λs hs=>BC u n _ s h3 hs) hp.2
 |.three _ _ _ _ _ _,0,_,_,h,_=>by simp[PT.kU]at h
 |.three i t j u k v,n+1,aH,σ,h,hp=>by
  simp only[PT.kU,bc,beq_iff_eq]at h;obtain⟨⟨⟨h1,h2⟩,h3⟩,h4⟩:=h;refine⟨λe=>by rw[h1]at e;simp at e,λx hk=>?_⟩;rw[h1]at hk;simp only[bu,iI,or_false]at hk;rcases hk with rfl|rfl|rfl
  ·exact zY (λs hs=>BC t n _ s h2 hs) hp.1
  ·exact zY (λs hs=>BC u n _ s h3 hs) hp.2.1
  ·exact zY (λs hs=>BC v n _ s h4 hs) hp.2.2
def MF{id:Nat}{ops:Array Oper}{Q:Exit->St->Prop}(hh:Nat)(qs ds:List Nat)(t:PT)(hm:P.follows .mixedOrders=true)(hd:fP N ops=true)(ht:t.kU ops qs ds ops.size (w0 ops.size false)=true)(h:oA P ops hh qs ds t (Q .normal) σ):W P N n0 (.region id ops true) Q σ :=
 ahj hh qs ds hm hd (BC t _ _ σ ht h)
def Ua{ops:Array Oper}{hh:Nat}{qs ds:List Nat}{K:St->Prop}:oA P ops hh qs ds .nil K σ=K σ:=rfl
def Ub{ops:Array Oper}{hh:Nat}{qs ds:List Nat}{i:Nat}{t:PT}{K:St->Prop}:oA P ops hh qs ds (.take i t) K σ=gM P ops hh qs ds i (oA P ops hh qs ds t K) σ:=rfl
def Uc{ops:Array Oper}{hh:Nat}{qs ds:List Nat}{i j k:Nat}{t u v:PT}{K:St->Prop}:oA P ops hh qs ds (.three i t j u k v) K σ=(gM P ops hh qs ds i (oA P ops hh qs ds t K) σ/\gM P ops hh qs ds j (oA P ops hh qs ds u K) σ/\gM P ops hh qs ds k (oA P ops hh qs ds v K) σ):=rfl
def Ud{ops:Array Oper}{hh:Nat}{qs ds:List Nat}{i j:Nat}{t u:PT}{K:St->Prop}:oA P ops hh qs ds (.both i t j u) K σ=(gM P ops hh qs ds i (oA P ops hh qs ds t K) σ/\gM P ops hh qs ds j (oA P ops hh qs ds u K) σ):=rfl
def Ue{ops:Array Oper}{hh:Nat}{q:Bool}{o:Oper}{K:St->Prop}:lD P ops hh q true o K σ=(o.guard=none/\zX hh P o σ K):=rfl
def Uf{ops:Array Oper}{hh:Nat}{q:Bool}{o:Oper}{K:St->Prop}:lD P ops hh q false o K σ=(fk hh q o σ=true/\eC P ops q o K σ):=rfl
def Ug(P:Program)(hh:Nat)(dst:Option Tmp)(args:List AV)(K:St->Prop)(σ:St):AV->Prop
 |.fn g bF=>Fa P hh g (args++bF) dst K σ
 |_=>False
def Uh{hh:Nat}{dst:Option Tmp}{args:List AV}{K:St->Prop}{g:FuncId}{bF:List AV}:Ug P hh dst args K σ (.fn g bF)=Fa P hh g (args++bF) dst K σ:=rfl
section
variable {dst:Option Tmp} {tt:TypeId} {p:String} {af:Array Edge} {g:Option (Nat×Bool)} {K:St->Prop} {hh:Nat}
def Ui(f:Operand)(args:Array Operand)(cI:Array TypeId):zX hh P ⟨dst,.call ⟨.value f,args,cI⟩,tt,p,af,g⟩ σ K=Ug P hh dst (args.toList.map (ev σ)) K σ (ev σ f):=by
 simp only[zX];cases ev σ f<;>rfl
def Uj{o:Oper}:fk hh true o σ=true:=by simp[fk]
def Uk(t:TypeId)(a:Operand):fk hh false ⟨dst,.load t a,tt,p,af,g⟩ σ=pV hh (ev σ a):=by simp[fk,cls,Op.operands,uJ]
def Ul(t:TypeId)(a:Operand)(f:Nat):fk hh false ⟨dst,.fieldAddr t a f,tt,p,af,g⟩ σ=pV hh (ev σ a):=by simp[fk,cls,Op.operands,uJ]
def Um(a:Operand):fk hh false ⟨dst,.nilCheck a,tt,p,af,g⟩ σ=pV hh (ev σ a):=by simp[fk,cls,Op.operands,uJ]
def Un(t:TypeId)(a i:Operand):fk hh false ⟨dst,.indexAddr t a i,tt,p,af,g⟩ σ=(pV hh (ev σ a)&&pV hh (ev σ i)):=by simp[fk,cls,Op.operands,uJ]
def Uo(x:Operand)(cI:Array TypeId):fk hh false ⟨dst,.call ⟨.builtin .len,#[x],cI⟩,tt,p,af,g⟩ σ=pV hh (ev σ x):=by simp[fk,cls,Op.operands,Call.operands,uJ]
def oB{o:Oper}(h:(cls o.op==0||decide (3<=cls o.op))=true):fk hh false o σ=true:=by simp only[fk,oO,h,Bool.true_or]
def Uq(id r c:Nat):pV hh (.ptr id r c) = !(id==hh):=rfl
def Ur(id a b c:Nat):pV hh (.ref id a b c) = !(id==hh):=rfl
def Us(v:Value):pV hh (.lit v)=true:=rfl
def Ut(s:Nat)(r:List (List AV)):pV hh (.tree s r)=true:=rfl
def Uu(r:List AV):pV hh (.b6 r)=true:=rfl
def Uv(r:List AV):pV hh (.agg r)=true:=rfl
def Uw(r:List AV):pV hh (.bC r)=true:=rfl
def Ux:pV hh .undef=true:=rfl
def Uy(x:Operand):fk hh false ⟨dst,.move x,tt,p,af,g⟩ σ=true:=oB QI
def Uz(x:Operand):fk hh false ⟨dst,.assign x,tt,p,af,g⟩ σ=true:=oB QI
def UA(c a b:Operand):fk hh false ⟨dst,.pick c a b,tt,p,af,g⟩ σ=true:=oB QI
def UB(op:BinOp)(t:TypeId)(x y:Operand)(yt:TypeId):fk hh false ⟨dst,.binOp op t x y yt,tt,p,af,g⟩ σ=true:=oB QI
def UC(op:UnOp)(t:TypeId)(x:Operand):fk hh false ⟨dst,.unOp op t x,tt,p,af,g⟩ σ=true:=oB QI
def UD(fn:Fn)(a b:Array Operand):fk hh false ⟨dst,.makeFunc fn a b,tt,p,af,g⟩ σ=true:=oB QI
def UE(s:TypeId)(x:Operand)(f:Nat):fk hh false ⟨dst,.field s x f,tt,p,af,g⟩ σ=true:=oB QI
def UG(x:Operand)(i:Nat):fk hh false ⟨dst,.extract x i,tt,p,af,g⟩ σ=true:=oB QI
def UH(t:TypeId)(parts:Array (Nat×Operand)):fk hh false ⟨dst,.build t parts,tt,p,af,g⟩ σ=true:=oB QI
def UJ(e:TypeId):fk hh false ⟨dst,.alloc e,tt,p,af,g⟩ σ=true:=oB QI
def UK(e:TypeId)(x:Operand):fk hh false ⟨dst,.box e x,tt,p,af,g⟩ σ=true:=oB QI
def UL(t:TypeId)(l c:Operand):fk hh false ⟨dst,.makeSlice t l c,tt,p,af,g⟩ σ=true:=oB QI
def UM(t:TypeId)(len:Nat)(parts:Array (Nat×Operand)):fk hh false ⟨dst,.buildSlice t len parts,tt,p,af,g⟩ σ=true:=oB QI
def UP(t:TypeId)(a x:Operand):fk hh false ⟨dst,.store t a x,tt,p,af,g⟩ σ=true:=oB QI
def UQ(f:Operand)(args:Array Operand)(cI:Array TypeId):fk hh false ⟨dst,.call ⟨.value f,args,cI⟩,tt,p,af,g⟩ σ=true:=oB QI
def UR(args:Array Operand)(cI:Array TypeId):fk hh false ⟨dst,.call ⟨.builtin .append,args,cI⟩,tt,p,af,g⟩ σ=true:=oB QI
def US(args:Array Operand)(cI:Array TypeId):fk hh false ⟨dst,.call ⟨.builtin .min,args,cI⟩,tt,p,af,g⟩ σ=true:=oB QI
def UT(args:Array Operand)(cI:Array TypeId):fk hh false ⟨dst,.call ⟨.builtin .max,args,cI⟩,tt,p,af,g⟩ σ=true:=oB QI
end
def Hc:=aaP @Ua @Ub @Uc @Ud @Ue @Uf @Uh (aaP @Ui @Uj @Uk @Ul @Um @Un @Uo (aaP @Uq @Ur @Us @Ut @Uu @Uv @Uw (aaP @Ux @Uy @Uz @UA @UB @UC @UD (aaP @UE @UG @UH @UJ @UK @UL @UM (aaI @UP @UQ @UR @US @UT)))))
def BD{hh:Nat}{f:FuncId}{args dO:List AV}{D D':Ob}{dst:Option Tmp}{K:St->Prop}{res:AV}(h:Holds P f dO [D] res [D'])(h1:zW D=true)(h2:zW D'=true)(h3:σ.aa[hh]?=some D)(h4:lr res=true)(h5:jN (T6 hh) dO args)(hK:K ((⟨σ.env,σ.aa.set hh D'⟩:St).put dst res)):Fa P hh f args dst K σ:=⟨dO,D,res,D',h,h1,h2,h3,h4,h5,hK⟩
def oC{P:Program}{N n0:Nat}{σ:St}{Q:Exit->St->Prop}(n:Nat){id:Nat}{ops:Array Oper}(hd:fP N ops=true)(o:Oper)(ho:ops[n]?=some o)(h:∀ K:St->Prop,(∀ s,Q .normal s->K s)->opsL P ops (ops.toList.take n) (uG P o (opsL P ops (ops.toList.drop (n+1)) K)) σ):W P N n0 (.region id ops false) Q σ:=by
 intro os γ0 a w hn az;refine wp_region ?_;have rQ:n<ops.size:=(nA.1 ho).1;have e:bn ops.size=mU 0 (ops.toList.take n).length++(n::mU (n+1) (ops.toList.drop (n+1)).length):=by
  rw[List.range_eq_range',<- List.range'_succ];have:=List.range'_append (s:=0) (m:=n) (n:=(ops.toList.drop (n+1)).length+1) (step:=1);simp only[Nat.zero_add,Nat.one_mul]at this;rw[show(ops.toList.take n).length=n by simp;omega,this];congr 1;simp;omega
 rw[e];refine zG _ a w ?_;refine s8 (oV hd) (K:=uG P o (opsL P ops (ops.toList.drop (n+1)) (Q .normal))) (λσ' a' w' hk c8=>?_) (ops.toList.take n) 0 σ a w (λk hk=>?_) (h _ (λ_ h=>h)) az
 ·show wpOps P ops _ _ a' w';rw[wpOps_cons];unfold wpOp;simp only[ho];have hw:Region.wanted o (yielded ops a'.tmps)=true:=by simp[Region.wanted,hk.1]
  rw[if_pos hw];left;refine H6 hk c8 (oV hd o (hZ (by simpa using ho))) (λσ2 a2 w2 bw xy=>?_);refine s8 (oV hd) (K:=Q .normal) (λBx a3 w3 gK xz=>⟨Bx,gK,xz⟩) (ops.toList.drop (n+1)) (n+1) σ2 a2 w2 (λk hk=>?_) bw xy;rw[List.getElem?_drop];simp
 ·simp only[List.length_take,Array.length_toList]at hk;rw[List.getElem?_take_of_lt Ey];simp
end Go.Am

