import Derived.Test.YtodilglobhifaaaGreatDoorX07
import Derived.Laws.StructEq
set_option linter.all false
set_option maxHeartbeats 0
set_option maxRecDepth 20000
open List renaming drop_drop→G7,take_append_drop→G8,map_cons→qR,range→bD,contains_iff_mem→ml,mem_filter→jH,mem_range→kA,tail_drop→Dh,all_eq_true→gN,mem_cons→cD,mem_of_getElem?→fB,map_congr_left→oO,mem_append→bj,not_mem_nil→qS,range'→jJ
open Bool renaming false_eq_true→j7,and_eq_true→bd,eq_iff_iff→kz,not_eq_true'→g7,true_and→iD,false_and→xI,false_or→mn,or_eq_true→jI
open Array renaming getElem?_eq_some_iff→kU,toList_append→vQ,replicate→ua
namespace Go.Am
variable {P:Program}
def sK(P:Program):List Field->Nat->Nat->Bool
 |[],o,n=>o==n
 |f::fs,o,n=>f.offset==o&&sK P fs (o+P.cellsOf f.type) n
def p8(P:Program):Nat->TypeId->Bool
 |0,_=>false
 |d+1,t =>
  match P.underlying t with
  |some (.int .i64)=>P.cellsOf t==1
  | some (.struct fs) => (P.info? t).isSome && !P.stoodInHeld t && sK P fs.toList 0 (P.cellsOf t) && fs.toList.all λf => f.name != "_" && p8 P d f.type
  |_=>false
def p9(P:Program)(t:TypeId)(xs:List Int):Value :=
 match P.underlying t with
 |some (.struct _)=>.agg (xs.map (Value.int .i64)).toArray
 |_=>.int .i64 (xs.getD 0 0)
def Hy{as bs:List Int}{o c:Nat}(h:as.length=bs.length):as.drop o=bs.drop o↔(as.drop o).take c=(bs.drop o).take c/\as.drop (o+c)=bs.drop (o+c):=by
 constructor
 ·intro e;refine⟨by rw[e],?_⟩;rw[<- G7,<- G7,e]
 ·rintro⟨e1,e2⟩;rw[<- G7,<- G7]at e2;rw[<- G8 c (as.drop o),<- G8 c (bs.drop o),e1,e2]
def Hz(w:World){d:Nat}{t:TypeId}(h:p8 P d t=true){as:List Int}{o:Nat}(ho:o+P.cellsOf t<=as.length):
  (part t (as.map (Value.int .i64)).toArray o).run P w=.ok (p9 P t ((as.drop o).take (P.cellsOf t))) w:=by
 cases d with
 |zero=>simp[p8]at h
 |succ d =>
  unfold p8 at h;cases hu:P.underlying t with
  |none=>simp[hu]at h
  |some k =>
   rw[hu]at h;cases k<;>try(simp at h;done)
   case int q =>
    cases q<;>try(simp at h;done)
    have hc:P.cellsOf t=1:=by simpa using h
    rw[hc]at ho;have hx:((as.map (Value.int .i64)).toArray)[o]?=some (.int .i64 (as.getD o 0)):=by
     have:o<as.length:=Ay;simp[this]
    simp only[part,isAgg,Sem.run_bind,run_underlying hu,Result.andThen_ok,Sem.run_pure,j7,if_false,Sem.run_ite,hx];have:o<as.length:=Ay;simp[p9,hu,hc,this]
   case struct fs =>
    simp only[bd]at h;obtain⟨i,hi⟩:=Option.isSome_iff_exists.1 h.1.1.1;have hs:∀ w,(sizeOf t).run P w=.ok (P.cellsOf t) w:=λw=>by
     simp[sizeOf,typeInfo,Program.cellsOf,hi,run_program]
    simp only[part,isAgg,Sem.run_bind,run_underlying hu,Result.andThen_ok,Sem.run_pure,if_true,Sem.run_ite,hs];simp only[p9,hu];congr 2;simp[List.map_take,List.map_drop]
def HA{D d:Nat}(ih:∀ t,p8 P d t=true->∀ (w:World) (as bs:List Int),as.length=P.cellsOf t->bs.length=P.cellsOf t->(Op.equalIn (D+d) t (p9 P t as) (p9 P t bs)).run P w=.ok (decide (as=bs)) w){as bs:List Int}(hl:as.length=bs.length):
  ∀ (fs : List Field) (o : Nat) (w : World), sK P fs o as.length = true -> (fs.all λf => f.name != "_" && p8 P d f.type) = true ->
   o+(fs.map λf=>P.cellsOf f.type).sum=as.length->(Op.eqFields (D+d) (as.map (Value.int .i64)).toArray (bs.map (Value.int .i64)).toArray fs).run P w=.ok (decide (as.drop o=bs.drop o)) w
 |[],o,w,ht,_,hs=>by
  have:o=as.length:=by simpa [sK] using ht
  subst this;have:bs.drop as.length=[]:=List.drop_eq_nil_of_le Ay;simp[Op.eqFields,this]
 |f::fs,o,w,ht,ha,hs=>by
  simp only[sK,bd,beq_iff_eq]at ht;obtain⟨rfl,ht⟩:=ht;simp only[List.all_cons,bd,bne_iff_ne]at ha;simp only[qR,List.sum_cons]at hs;have h1:=Hz (as:=as) w ha.1.2 (o:=f.offset) Ay;have h2:=Hz (as:=bs) w ha.1.2 (o:=f.offset) Ay;have h3:=ih f.type ha.1.2 w ((as.drop f.offset).take (P.cellsOf f.type)) ((bs.drop f.offset).take (P.cellsOf f.type)) aab aab;have h4:=HA ih hl fs (f.offset+P.cellsOf f.type) w ht ha.2 Ay;simp only[Op.eqFields];rw[if_pos ha.1.1];simp only[Sem.run_bind,h1,h2,h3,Result.andThen_ok,Sem.run_ite,Sem.run_pure,h4];by_cases he:(as.drop f.offset).take (P.cellsOf f.type)=(bs.drop f.offset).take (P.cellsOf f.type)
  ·rw[decide_eq_true he];simp only[Bool.not_true,j7,if_false];congr 1;rw[decide_eq_decide,Hy (o:=f.offset) (c:=P.cellsOf f.type) hl];simp[he]
  ·rw[decide_eq_false he];simp only[Bool.not_false,if_true];congr 1;rw[eq_comm,decide_eq_false_iff_not,Hy (o:=f.offset) (c:=P.cellsOf f.type) hl];exact λh=>he h.1
def HB:∀ (fs:List Field) (o n:Nat),sK P fs o n=true->o+(fs.map λf=>P.cellsOf f.type).sum=n
 |[],o,n,h=>by simpa [sK] using h
 |f::fs,o,n,h=>by
  simp only[sK,bd,beq_iff_eq]at h;have:=HB fs _ n h.2;simp only[qR,List.sum_cons];omega
def HC(D:Nat):∀ (d:Nat) (t:TypeId),p8 P d t=true->∀ (w:World) (as bs:List Int),as.length=P.cellsOf t->bs.length=P.cellsOf t->(Op.equalIn (D+d) t (p9 P t as) (p9 P t bs)).run P w=.ok (decide (as=bs)) w
 |0,t,h=>by simp[p8]at h
 |d+1,t,h=>by
  intro w as bs ha hb;unfold p8 at h;cases hu:P.underlying t with
  |none=>simp[hu]at h
  |some k =>
   rw[hu]at h;cases k<;>try(simp at h;done)
   case int q =>
    cases q<;>try(simp at h;done)
    have hc:P.cellsOf t=1:=by simpa using h
    rw[hc]at ha hb
    match as,bs,ha,hb with
    |[a],[b],_,_ =>
     simp only[p9,hu,List.getD_cons_zero];rw[show D+(d+1)=(D+d)+1 from rfl,run_equalIn_int w (D+d) t .i64 .i64 a b hu];congr 1;rw[kz];simp
   case struct fs =>
    simp only[bd,g7]at h;have hf:P.fieldsOf t=fs:=by simp[Program.fieldsOf,hu]
    simp only[p9,hu];rw[show D+(d+1)=(D+d)+1 from rfl,run_equalIn_struct w (D+d) t _ _ (by rw[hf];exact hu) h.1.1.2,hf];have:=HA (D:=D) (HC D d) (as:=as) (bs:=bs) Ay fs.toList 0 w (by rw[ha];exact h.1.2) h.2 (by rw[ha];exact HB _ _ _ h.1.2);simpa using this
def DA(P:Program)(d:Nat)(t:TypeId)(n:Nat):Bool :=
 (match P.underlying t with|some (.struct _)=>true|_=>false)&&decide (d<=10000)&&p8 P d t&&(P.cellsOf t==n)
def m7.of{t:TypeId}(d:Nat){n:Nat}(h:DA P d t n=true):m7 P t n:=by
 intro w as bs ha hb;simp only[DA,bd,decide_eq_true_eq,beq_iff_eq]at h;obtain⟨⟨⟨h1,hd⟩,h2⟩,h3⟩:=h;have:=HC (10000-d) d t h2 w as bs Ay Ay;rw[Nat.sub_add_cancel hd]at this;cases hu:P.underlying t with
 |none=>rw[hu]at h1;simp at h1
 |some k =>
  cases k<;>rw[hu]at h1<;>try(simp at h1;done)
  simpa only[p9,hu] using this
end Go.Am
namespace Go.Am
variable {P:Program} {N n0:Nat} {σ:St} {Q:Exit->St->Prop}
def oU(o:Oper):Bool :=
 match o.op with
 |.call c=>match c.callee with
  |.value _=>true
  |_=>false
 |_=>false
def vZ(ops:Array Oper):List Nat:=(bD ops.size).filter λi=>match ops[i]? with|some o=>oU o|none=>false
def nV(P:Program)(ops:Array Oper):List Oper->(St->Prop)->St->Prop
 |[],K,σ=>K σ
 |o::r,K,σ=>cQ P ops (oU o) o (nV P ops r K) σ
def HD{ops:Array Oper}{K:St->Prop}:nV P ops [] K σ=K σ:=by simp only[nV]
def DB{ops:Array Oper}{o:Oper}{r:List Oper}{K:St->Prop}:nV P ops (o::r) K σ=cQ P ops (oU o) o (nV P ops r K) σ:=by simp only[nV]
def R4{ops:Array Oper}{i:Nat}{o:Oper}(h:ops[i]?=some o):(vZ ops).contains i=oU o:=by
 have hi:i<ops.size:=(kU.1 h).1;rw[kz,ml];simp only[vZ,jH,kA,hi,true_and,h]
def DC{ops:Array Oper}{K:St->Prop}:∀ (l:List Oper) (i:Nat) (σ:St),ops.toList.drop i=l->nV P ops l K σ->m8 P ops (vZ ops) i l K σ
 |[],i,σ,_,h=>h
 |o::r,i,σ,hl,h=>by
  have hi:ops[i]?=some o:=by
   have:(ops.toList.drop i)[0]?=some o:=by rw[hl];rfl
   simpa using this
  have hr:ops.toList.drop (i+1)=r:=by
   have:=congrArg List.tail hl;simpa [Dh] using this
  rw[AJ,R4 hi];rw[DB]at h;exact x7 (λs hs=>DC r (i+1) s hr hs) h
def AK(ops:Array Oper):Bool:=AL ops (vZ ops)
def R5{id:Nat}{ops:Array Oper}{y:Code}(hm:P.follows .mixedOrders=true)(hd:eJ N ops=true)(ht:AK ops=true)(h:∀ K:St->Prop,(∀ s,W P N n0 y Q s->K s)->nV P ops ops.toList K σ):
  W P N n0 (.seq (.region id ops true) y) Q σ :=
 HE (vZ ops) hm hd ht λK hK=>DC ops.toList 0 σ rfl (h K hK)
def R6{id:Nat}{ops:Array Oper}(hm:P.follows .mixedOrders=true)(hd:eJ N ops=true)(ht:AK ops=true)(h:∀ K:St->Prop,(∀ s,Q .normal s->K s)->nV P ops ops.toList K σ):
  W P N n0 (.region id ops true) Q σ :=
 AM (vZ ops) hm hd ht λK hK=>DC ops.toList 0 σ rfl (h K hK)
def qZ:List Oper->Bool
 |[]=>false
 |o::r=>oU o||qZ r
def v3(ops:Array Oper):List Nat:=(bD ops.size).filter λi=>match ops[i]? with|some o=>oU o&&qZ (ops.toList.drop (i+1))|none=>false
def nW(P:Program)(ops:Array Oper):List Oper->(St->Prop)->St->Prop
 |[],K,σ=>K σ
 |o::r,K,σ=>cQ P ops (oU o&&qZ r) o (nW P ops r K) σ
def HF{ops:Array Oper}{K:St->Prop}:nW P ops [] K σ=K σ:=by simp only[nW]
def DD{ops:Array Oper}{o:Oper}{r:List Oper}{K:St->Prop}:nW P ops (o::r) K σ=cQ P ops (oU o&&qZ r) o (nW P ops r K) σ:=by simp only[nW]
def R7{ops:Array Oper}{i:Nat}{o:Oper}{r:List Oper}(h:ops[i]?=some o)(hr:ops.toList.drop (i+1)=r):(v3 ops).contains i=(oU o&&qZ r):=by
 have hi:i<ops.size:=(kU.1 h).1;rw[kz,ml];simp only[v3,jH,kA,hi,true_and,h,hr]
def DE{ops:Array Oper}{K:St->Prop}:∀ (l:List Oper) (i:Nat) (σ:St),ops.toList.drop i=l->nW P ops l K σ->m8 P ops (v3 ops) i l K σ
 |[],i,σ,_,h=>h
 |o::r,i,σ,hl,h=>by
  have hi:ops[i]?=some o:=by
   have:(ops.toList.drop i)[0]?=some o:=by rw[hl];rfl
   simpa using this
  have hr:ops.toList.drop (i+1)=r:=by
   have:=congrArg List.tail hl;simpa [Dh] using this
  rw[AJ,R7 hi hr];rw[DD]at h;exact x7 (λs hs=>DE r (i+1) s hr hs) h
def AN(ops:Array Oper):Bool:=AL ops (v3 ops)
def R8{id:Nat}{ops:Array Oper}{y:Code}(hm:P.follows .mixedOrders=true)(hd:eJ N ops=true)(ht:AN ops=true)(h:∀ K:St->Prop,(∀ s,W P N n0 y Q s->K s)->nW P ops ops.toList K σ):
  W P N n0 (.seq (.region id ops true) y) Q σ :=
 HE (v3 ops) hm hd ht λK hK=>DE ops.toList 0 σ rfl (h K hK)
def R9{id:Nat}{ops:Array Oper}(hm:P.follows .mixedOrders=true)(hd:eJ N ops=true)(ht:AN ops=true)(h:∀ K:St->Prop,(∀ s,Q .normal s->K s)->nW P ops ops.toList K σ):
  W P N n0 (.region id ops true) Q σ :=
 AM (v3 ops) hm hd ht λK hK=>DE ops.toList 0 σ rfl (h K hK)
def aC.Sa(d sz:Nat){a:Option Addr}{cap:Nat}(h:σ.env d=.lit (.slice a 0 cap)):aC n0 σ ⟨eY σ.env d (.tree sz []),σ.aa⟩:=by
 intro os γ0 γ _ hs hf;refine⟨γ,rfl,rfl,⟨λk=>?_,hs.dL,hs.inj,hs.nz,hs.fG,hs.gl⟩,hf⟩;show aq σ.aa γ.w γ.Z γ.blk (eY σ.env d (.tree sz []) k) _;by_cases hk:k=d
 ·subst hk;have:=hs.au k;rw[h]at this;rw[Sb,this.bQ];exact .bO _ _ (.nil sz cap a)
 ·rw[eY,if_neg hk];exact hs.au k
end Go.Am
namespace Go.Am
def AO(k:IntKind)(n:Int):dr (.int k n)=.lit (.int k n):=by first|rfl|(cases b<;>rfl)|(simp only[dr];done)|(unfold ef;split<;>simp_all)
def AP(b:Bool):dr (.bool b)=.lit (.bool b):=by first|rfl|(cases b<;>rfl)|(simp only[dr];done)|(unfold ef;split<;>simp_all)
def AQ(a:Option Addr)(n c:Nat):dr (.slice a n c)=.lit (.slice a n c):=by first|rfl|(cases b<;>rfl)|(simp only[dr];done)|(unfold ef;split<;>simp_all)
def AR(s:ByteArray):dr (.string s)=.lit (.string s):=by first|rfl|(cases b<;>rfl)|(simp only[dr];done)|(unfold ef;split<;>simp_all)
def AS(s:Array Value):dr (.tuple s)=.lit (.tuple s):=by first|rfl|(cases b<;>rfl)|(simp only[dr];done)|(unfold ef;split<;>simp_all)
def HG(ρ:Nat->Nat)(v:Value):aU ρ (.lit v)=.lit v:=by first|rfl|(cases b<;>rfl)|(simp only[dr];done)|(unfold ef;split<;>simp_all)
def HH(ρ:Nat->Nat)(s:Nat)(r:List (List AV)):aU ρ (.tree s r)=.tree s r:=by first|rfl|(cases b<;>rfl)|(simp only[dr];done)|(unfold ef;split<;>simp_all)
def HJ(ρ:Nat->Nat)(r:List AV):aU ρ (.cm r)=.cm r:=by first|rfl|(cases b<;>rfl)|(simp only[dr];done)|(unfold ef;split<;>simp_all)
def HK(ρ:Nat->Nat):aU ρ .undef=.undef:=by first|rfl|(cases b<;>rfl)|(simp only[dr];done)|(unfold ef;split<;>simp_all)
def HL(v:Value):cellsOf (.lit v)=[.lit v]:=by first|rfl|(cases b<;>rfl)|(simp only[dr];done)|(unfold ef;split<;>simp_all)
def HN(s:Nat)(r:List (List AV)):cellsOf (.tree s r)=[.tree s r]:=by first|rfl|(cases b<;>rfl)|(simp only[dr];done)|(unfold ef;split<;>simp_all)
def HO(r:List AV):cellsOf (.cm r)=[.cm r]:=by first|rfl|(cases b<;>rfl)|(simp only[dr];done)|(unfold ef;split<;>simp_all)
def HP(a b c d:Nat):cellsOf (.ref a b c d)=[.ref a b c d]:=by first|rfl|(cases b<;>rfl)|(simp only[dr];done)|(unfold ef;split<;>simp_all)
def HQ(a b c:Nat):cellsOf (.ptr a b c)=[.ptr a b c]:=by first|rfl|(cases b<;>rfl)|(simp only[dr];done)|(unfold ef;split<;>simp_all)
def HR(id:Nat):cellsOf (.dx id)=[.dx id]:=rfl
def HS(t:TypeId)(v:AV):cellsOf (.fj t v)=[.fj t v]:=rfl
def HT(f:FuncId)(l:List AV):cellsOf (.fn f l)=[.fn f l]:=by first|rfl|(cases b<;>rfl)|(simp only[dr];done)|(unfold ef;split<;>simp_all)
def HU(t:Bool)(s:Array Value)(b:AV):ef t (.lit (.tuple s)) b=if t=true then .lit (.tuple s) else b:=by first|rfl|(cases b<;>rfl)|(simp only[dr];done)|(unfold ef;split<;>simp_all)
def HV(t:Bool)(s:Array Value)(b:AV):ef t b (.lit (.tuple s))=if t=true then b else .lit (.tuple s):=by first|rfl|(cases b<;>rfl)|(simp only[dr];done)|(unfold ef;split<;>simp_all)
def HW(t:Bool)(s u:List AV):ef t (.agg s) (.agg u)=if t=true then .agg s else .agg u:=by first|rfl|(cases b<;>rfl)|(simp only[dr];done)|(unfold ef;split<;>simp_all)
def HX(l:List AV):bU (.agg l)=false:=by first|rfl|(cases b<;>rfl)|(simp only[dr];done)|(unfold ef;split<;>simp_all)
def HY(l:List AV):bU (.bP l)=false:=by first|rfl|(cases b<;>rfl)|(simp only[dr];done)|(unfold ef;split<;>simp_all)
def HZ  : bU .undef=false:=by first|rfl|(cases b<;>rfl)|(simp only[dr];done)|(unfold ef;split<;>simp_all)
def H0(k:IntKind)(n:Int):Value.oneCell' (.int k n)=true:=by first|rfl|(cases b<;>rfl)|(simp only[dr];done)|(unfold ef;split<;>simp_all)
def H2(b:Bool):Value.oneCell' (.bool b)=true:=by first|rfl|(cases b<;>rfl)|(simp only[dr];done)|(unfold ef;split<;>simp_all)
def H3(a:Option Addr)(n c:Nat):Value.oneCell' (.slice a n c)=true:=by first|rfl|(cases b<;>rfl)|(simp only[dr];done)|(unfold ef;split<;>simp_all)
def H4(s:ByteArray):Value.oneCell' (.string s)=true:=by first|rfl|(cases b<;>rfl)|(simp only[dr];done)|(unfold ef;split<;>simp_all)
def H5(a:Option Addr):Value.oneCell' (.pointer a)=true:=by first|rfl|(cases b<;>rfl)|(simp only[dr];done)|(unfold ef;split<;>simp_all)
def H6(a:Option Nat):Value.oneCell' (.map a)=true:=by first|rfl|(cases b<;>rfl)|(simp only[dr];done)|(unfold ef;split<;>simp_all)
def Pc:=aav @v5.eq_1 @v5.eq_2 @sL.eq_1 @sL.eq_2 @v7.eq_1 @v7.eq_2 @lz.eq_1 (aav @lz.eq_2 @lz.eq_3 @DF.eq_1 @DG.eq_1 @eS.eq_1 @eS.eq_2 @eS.eq_3 (aav @eS.eq_4 @eS.eq_5 @eS.eq_6 @eS.eq_7 @eS.eq_8 @eS.eq_9 @eS.eq_10 (aav @eS.eq_11 @eS.eq_12 @eS.eq_13 @jM.eq_1 @cQ.eq_1 @lz.eq_4 @H7 (aaj @H8 @H9 @H'))))
def Sc:=aav @ev.eq_1 @ev.eq_2 @ev.eq_3 @ev.eq_4 @dr.eq_1 @St.put.eq_1 @St.put.eq_2 (aav @p'.eq_1 @p'.eq_2 @qa.eq_1 @qa.eq_2 @ef.eq_1 @lC.eq_1 @lC.eq_2 (aav @dU.eq_1 @dU.eq_2 @aU.eq_1 @aU.eq_2 @aU.eq_3 @aU.eq_4 @aU.eq_5 (aav @aU.eq_6 @lD.eq_1 @lD.eq_2 @bq.eq_1 @rowOf.eq_1 @kZ.eq_1 @k7.eq_1 (aav @k7.eq_2 @m9.eq_1 @m9.eq_2 @cellsOf.eq_1 @setCells.eq_1 @setCells.eq_2 @jN.eq_1 (aav @jN.eq_2 @jO.eq_1 @jO.eq_2 @bU.eq_1 @bU.eq_2 @bU.eq_3 @bU.eq_4 (aav @bU.eq_5 @bU.eq_6 @Ty.isAgg.eq_1 @Value.oneCell'.eq_1 @Value.oneCell'.eq_2 @oU.eq_1 @qZ.eq_1 (aav @qZ.eq_2 @aA.eq_1 @bA.eq_1 @bk.eq_1 @bL.eq_1 @kD.eq_1 @dE.eq_1 (aav @aj.eq_1 @lE.eq_1 @lE.eq_2 @AJ @Ia @DB @HD (aav @DD @HF @iD @xI @AO @AP @AQ (aav @AR @AS @HG @HH @HJ @HK @HL (aav @HN @HO @HP @HQ @HT @HU @HV (aav @HW @HX @HY @HZ @H0 @H2 @H3 (aav @H4 @H5 @H6 @bU.eq_7 @HS @Ib @Ic (aav @Ie @DH.eq_1 @lF.eq_1 @lF.eq_2 @aU.eq_7 @bU.eq_8 @HR (aav @Ig @Ih @Ii @Ij @Ik @Il @Im (aal @jo.eq_1 @keyOf.eq_1 @keyOf.eq_2 @gA.eq_1))))))))))))))))
def Lc:=aav @ev.eq_1 @ev.eq_2 @ev.eq_3 @ev.eq_4 @dr.eq_1 @St.put.eq_1 @St.put.eq_2 (aao @AO @AP @AQ @AR @AS)
def gP{P:Program}{N n0:Nat}(id:Nat){ops:Array Oper}{d:Bool}{y:Code}{Q:Exit->St->Prop}{σ:St}(h:W P N n0 (.seq (.region id ops d) y) Q σ):W P N n0 (.seq (.region id ops d) y) Q σ:=h
def gQ{P:Program}{N n0:Nat}(id:Nat){ops:Array Oper}{d:Bool}{Q:Exit->St->Prop}{σ:St}(h:W P N n0 (.region id ops d) Q σ):W P N n0 (.region id ops d) Q σ:=h
end Go.Am
namespace Go.Am
variable {P:Program} {N n0:Nat} {σ:St}
def sM:Ob->Bool
 |.gone=>false
 |.var cs=>jP cs
 |.arr _ rows=>rows.all jP
 |.mp _ _=>false
def Io{ρ:Nat->Nat}{o:Ob}(h:sM o=true):bu ρ o=o:=by
 cases o with
 |gone=>simp[sM]at h
 |var cs =>
  have:=v8 ρ cs h;rw[sN]at this;simp[bu,this]
 |arr sz rows=>exact x8 (by simpa [sM,gN] using h)
 |mp ag L=>simp[sM]at h
def Ip(hd:Nat)(c a:AV):Prop:=(a=c/\iu c=true)\/(c=.ptr 0 0 0/\a=.ptr hd 0 0)
def x9(P:Program)(hd:Nat)(g:FuncId)(args:List AV)(dst:Option Tmp)(K:St->Prop)(σ:St):Prop :=
 ∃ cu D res D',ao P g cu [D] res [D']/\sM D=true/\sM D'=true/\σ.aa[hd]?=some D/\iu res=true/\jQ (Ip hd) cu args/\K ((⟨σ.env,σ.aa.set hd D'⟩:St).put dst res)
def Sd{hd:Nat}{g:FuncId}{args:List AV}{dst:Option Tmp}{K:St->Prop}(h:x9 P hd g args dst K σ):nX P g args dst K σ:=by
 obtain⟨cu,D,res,D',h1,h2,h3,h4,h5,h6,h7⟩:=h;obtain⟨h8,h9⟩:=h6.spec;have Se:bq σ.aa.length [hd] 0=hd:=by simp[bq]
 refine⟨[hd],false,cu,[D],res,[D'],h1,⟨Dg,rfl,λj o hj=>?_,h8,λj c d hc lG=>?_,Dg⟩,?_⟩
 ·cases j with
  |zero=>simp at hj;subst hj;simp[Io h2,h4]
  |succ j=>simp at hj
 ·rcases h9 j c d hc lG with⟨rfl,hn⟩|⟨rfl,rfl⟩
  ·exact .pure hn
  ·exact .eq (by simp[aU,Se])
 ·have e:dU σ.aa [hd] ([D'].map (bu (bq σ.aa.length [hd])))=σ.aa.set hd D':=by simp[dU,Io h3]
  show K (({ σ with aa:=dU σ.aa [hd] ([D'].map (bu (bq σ.aa.length [hd]))) }:St).put dst (aU (bq σ.aa.length [hd]) res));rw[e,ur _ _ h5];exact h7
def sO(hd:Nat)(P:Program)(o:Oper)(σ:St)(K:St->Prop):Prop :=
 match o.op with
 |.call { callee:=.value f,args,.. } =>
  match ev σ f with
  |.fn g bB=>x9 P hd g (args.toList.map (ev σ)++bB) o.dst K σ
  |_=>False
 |_=>False
def Sf{hd:Nat}{o:Oper}{K:St->Prop}(h:sO hd P o σ K):aR P o σ K:=by
 unfold sO at h;unfold aR;split at h
 ·rename_i f args dV cG;simp only[cG];split at h
  ·rename_i g bB he;simp only[he];exact Sd h
  ·exact h.elim
 ·exact h.elim
def k8(hd:Nat):AV->Bool
 |.ptr id _ _=>id != hd
 |.ref id _ _ _=>id != hd
 |.dx id=>id != hd
 |_=>true
def nY(hd:Nat)(σ:St):List Operand->Bool
 |[]=>true
 |x::l=>k8 hd (ev σ x)&&nY hd σ l
def dW(hd:Nat)(q:Bool)(o:Oper)(σ:St):Bool:=q||cls o.op==0||decide (3<=cls o.op)||nY hd σ o.op.operands.toList
def Iq{hd:Nat}:∀ {l:List Operand},nY hd σ l=true->∀ x∈l,oV (ev σ x)≠some hd
 |[],_,x,hx=>by simp at hx
 |y::l,h,x,hx=>by
  simp only[nY,bd]at h;rcases cD.1 hx with rfl|hx
  ·intro e;have h1:=h.1;cases hv:ev σ x<;>rw[hv]at e h1<;>simp[oV,k8]at e h1
   ·exact h1 e
   ·exact h1 e
   ·exact h1 e
  ·exact Iq h.2 x hx
def DI{hd:Nat}{σ2:St}:∀ {l:List Operand},(∀ x∈l,ev σ2 x=ev σ x)->nY hd σ2 l=nY hd σ l
 |[],_=>rfl
 |y::l,h=>by
  simp only[nY];rw[h y Dg,DI λx hx=>h x (by simp[hx])]
def iv(P:Program)(ops:Array Oper)(hd:Nat)(q dc:Bool)(o:Oper)(K:St->Prop)(σ:St):Prop :=
 match dc with
 |true=>o.guard=none/\sO hd P o σ K
 |false=>dW hd q o σ=true/\cQ P ops q o K σ
def fq(q dc:Bool)(o:Oper):Nat:=if dc then 6 else ew q o
def ya(hd c:Nat)(a b:List Ob):Prop:=if c=6 then ∀ id,id≠hd->b[id]?=a[id]? else iG c a b
def Sg{N:Nat}{os:List Ob}{γ0:Cx}{ops:Array Oper}{hh:Nat}(hd:∀ o∈ops.toList,∀ d,o.dst=some d->d<N){q dc:Bool}{i:Nat}{o:Oper}(hi:ops[i]?=some o){σ:St}{K:St->Prop}(h:iv P ops hh q dc o K σ){a:Act}{w:World}(aV:dM N os γ0 σ a w){Q:Exit->Act->World->Prop}{next:Act->World->Prop}(hn:∀ σ' a' w',K σ'->dM N os γ0 σ' a' w'->next a' w'):wpOp P ops Q i next a w:=by
 cases dc with
 |false=>exact Ir hd hi h.2 aV hn
 |true =>
  have eh:o∈ops.toList:=fB (by simpa using hi);unfold wpOp;simp only[hi];have hw:Region.wanted o (yielded ops a.tmps)=true:=by simp[Region.wanted,h.1]
  rw[if_pos hw];left;exact uu (Sf h.2) aV (hd o eh) hn
def AT{ops:Array Oper}{hh:Nat}{q dc:Bool}{o:Oper}{σ:St}{K:St->Prop}(hW:iv P ops hh q dc o K σ):
  ∃ v os,ya hh (fq q dc o) σ.aa os/\K ((⟨σ.env,os⟩:St).put o.dst v)/\∀ (e2:Nat->AV) (K2:St->Prop),(∀ t∈o.looksAt ops,e2 t=σ.env t)->K2 ((⟨e2,os⟩:St).put o.dst v)->iv P ops hh q dc o K2 ⟨e2,σ.aa⟩:=by
 cases dc with
 |false =>
  obtain⟨hc,hW⟩:=hW;obtain⟨v,os,h1,h2,h3⟩:=yb hW;refine⟨v,os,?_,h2,λe2 K2 hl hK=>⟨?_,h3 e2 K2 hl hK⟩⟩
  ·unfold ya fq;simp only[j7,if_false];rw[if_neg]
   ·exact h1
   ·unfold ew;split
    ·omega
    ·unfold cls;split<;>omega
  ·unfold dW at hc ⊢;rw[DI (σ:=σ) (q6 hl)];exact hc
 |true =>
  obtain⟨hg,hW⟩:=hW;unfold sO at hW;split at hW
  ·rename_i f args dV cG;split at hW
   ·rename_i g bB he;obtain⟨cu,D,res,D',h1,h2,h3,h4,h5,h6,h7⟩:=hW;refine⟨res,σ.aa.set hh D',?_,h7,λe2 K2 hl hK=>⟨hg,?_⟩⟩
    ·unfold ya fq;simp only[if_true];intro id cp;rw[List.getElem?_set,if_neg (Ne.symm cp)]
    ·unfold sO;simp only[cG];have hx:=q6 (os:=σ.aa) hl;have e1:ev ⟨e2,σ.aa⟩ f=.fn g bB:=by rw[<- he];exact hx f (by simp[cG,Op.operands,Call.operands])
     have e3:args.toList.map (ev ⟨e2,σ.aa⟩)=args.toList.map (ev σ):=oO λy hy=>hx y (by simp only[cG,Op.operands,Call.operands,vQ,bj];exact .inr hy);simp only[e1,e3];exact⟨cu,D,res,D',h1,h2,h3,h4,h5,h6,hK⟩
   ·exact hW.elim
  ·exact hW.elim
def Sh{o:Oper}{σ:St}{K:St->Prop}(hc:cls o.op<=2)(hW:aR P o σ K):
  ∃ v,K (σ.put o.dst v)/\∀ (σ2:St) (K2:St->Prop),(∀ x∈o.op.operands.toList,ev σ2 x=ev σ x)->(∀ x∈o.op.operands.toList,∀ id,oV (ev σ x)=some id->gB (cls o.op) σ.aa[id]? σ2.aa[id]?)->K2 (σ2.put o.dst v)->aR P o σ2 K2:=by
 unfold aR at hW ⊢;split at hW
 ·rename_i f args dV cG;rw[cG]at hc;simp[cls]at hc
 ·rename_i r m args dV cG;rw[cG]at hc;simp[cls]at hc
 ·rename_i bI;obtain⟨v,h2,h3⟩:=Is hc hW;refine⟨v,h2,λσ2 K2 hx ho hK=>?_⟩;exact h3 σ2 K2 hx (ho) hK
def Iu{q:Bool}{o:Oper}{σ:St}{K:St->Prop}(hc:ew q o<=2)(hW:jq q P o σ K):
  ∃ v,K (σ.put o.dst v)/\∀ (σ2:St) (K2:St->Prop),(∀ x∈o.op.operands.toList,ev σ2 x=ev σ x)->(∀ x∈o.op.operands.toList,∀ id,oV (ev σ x)=some id->gB (ew q o) σ.aa[id]? σ2.aa[id]?)->K2 (σ2.put o.dst v)->jq q P o σ2 K2:=by
 cases q with
 |false=>exact Sh hc hW
 |true =>
  unfold jq at hW ⊢;simp only at hW ⊢;split at hW
  ·rename_i f args dV cG;simp only[cG];split at hW
   ·rename_i g bB he;obtain⟨res,h1,h2,h3,h4⟩:=hW;refine⟨res,h4,λσ2 K2 hx _ hK=>?_⟩;have e1:ev σ2 f=.fn g bB:=by rw[<- he];exact hx f (by simp[Op.operands,Call.operands])
    have e3:args.toList.map (ev σ2)=args.toList.map (ev σ):=oO λy hy=>hx y (by simp only[Op.operands,Call.operands,vQ,bj];exact .inr hy);simp only[e1,e3];exact⟨res,h1,h2,h3,hK⟩
   ·exact hW.elim
  ·rename_i t a cG;obtain⟨x,h1,h2⟩:=DJ hW;refine⟨x,h1,λσ2 K2 hx _ hK=>?_⟩;rw[hx a (by simp[cG,Op.operands])];exact h2 _ K2 hK
  ·exact hW.elim
def Si{ops:Array Oper}{q:Bool}{o:Oper}{σ:St}{K:St->Prop}(hc:ew q o<=2)(hW:cQ P ops q o K σ):
  ∃ v,K (σ.put o.dst v)/\∀ (σ2:St) (K2:St->Prop),(∀ t∈o.looksAt ops,σ2.env t=σ.env t)->(∀ x∈o.op.operands.toList,∀ id,oV (ev σ x)=some id->gB (ew q o) σ.aa[id]? σ2.aa[id]?)->K2 (σ2.put o.dst v)->cQ P ops q o K2 σ2:=by
 unfold cQ at hW ⊢;cases hg:o.guard with
 |none =>
  simp only[hg]at hW;obtain⟨v,h2,h3⟩:=Iu hc hW;exact⟨v,h2,λσ2 K2 hl ho hK=>h3 σ2 K2 (q6 (e2:=σ2.env) (os:=σ2.aa) hl) ho hK⟩
 |some jw =>
  obtain⟨j,want⟩:=jw;simp only[hg]at hW;cases cV:(ops[j]?).bind (·.dst) with
  |none=>simp[cV]at hW
  |some d =>
   simp only[cV]at hW;split at hW
   ·rename_i b he;by_cases eK:b=want
    ·obtain⟨v,h2,h3⟩:=Iu hc (hW.1 eK);refine⟨v,h2,λσ2 K2 hl ho hK=>?_⟩;have:σ2.env d=.lit (.bool b):=by rw[hl d (q7 hg cV)];exact he
     simp only[cV,this];exact⟨λ_=>h3 σ2 K2 (q6 (e2:=σ2.env) (os:=σ2.aa) hl) ho hK,λhn=>absurd eK hn⟩
    ·refine⟨.lit (.tuple #[]),hW.2 eK,λσ2 K2 hl ho hK=>?_⟩;have:σ2.env d=.lit (.bool b):=by rw[hl d (q7 hg cV)];exact he
     simp only[cV,this];exact⟨λhn=>absurd hn eK,λ_=>hK⟩
   ·rename_i vs he;refine⟨.lit (.tuple #[]),hW.2,λσ2 K2 hl ho hK=>?_⟩;have:σ2.env d=.lit (.tuple vs):=by rw[hl d (q7 hg cV)];exact he
    simp only[cV,this];exact⟨hW.1,hK⟩
   ·exact hW.elim
def Iv{ops:Array Oper}{hh:Nat}{q dc:Bool}{o:Oper}{σ:St}{K:St->Prop}(hc:fq q dc o<=2)(hW:iv P ops hh q dc o K σ):
  ∃ v,K (σ.put o.dst v)/\∀ (σ2:St) (K2:St->Prop),(∀ t∈o.looksAt ops,σ2.env t=σ.env t)->(∀ (id:Nat),id≠hh->gB (fq q dc o) σ.aa[id]? σ2.aa[id]?)->K2 (σ2.put o.dst v)->iv P ops hh q dc o K2 σ2:=by
 cases dc with
 |true=>simp[fq]at hc
 |false =>
  obtain⟨hk,hW⟩:=hW;have jr:ew q o<=2:=by simpa [fq] using hc
  obtain⟨v,h1,h2⟩:=Si jr hW;refine⟨v,h1,λσ2 K2 hl ho hK=>⟨?_,h2 σ2 K2 hl (λx hx id hp=>?_) hK⟩⟩
  ·unfold dW at hk ⊢;rw[DI (σ:=σ) (q6 (e2:=σ2.env) (os:=σ2.aa) hl)];exact hk
  ·have cz:∀ id,id≠hh->gB (ew q o) σ.aa[id]? σ2.aa[id]?:=by simpa [fq] using ho
   by_cases h0:ew q o=0
   ·rw[h0];simp[gB]
   ·refine cz id λe=>?_;subst e;unfold ew at h0 jr;split at h0
    ·omega
    ·rename_i hq;simp only[hq]at jr;have Sj:q=false:=by simpa using hq
     subst Sj;unfold dW at hk;have q8:cls o.op<=2:=by simpa using jr
     have h3:decide (3<=cls o.op)=false:=decide_eq_false Ay;have h4:(cls o.op==0)=false:=by simpa using h0
     rw[h3,h4]at hk;simp only[mn]at hk;exact Iq hk x hx hp
def AU(ci ck:Nat):Bool:=v9 ci ck||(decide (ci<=2)&&ck==6)
def Sk{hh ci ck:Nat}(h:(ci==0||(ci==1&&decide (ck<=4))||(ci==2&&decide (ck<=3))||(decide (ci<=2)&&ck==6))=true){a b:List Ob}(he:ya hh ck a b)(id:Nat)(cp:id≠hh):gB ci a[id]? b[id]?:=by
 unfold ya at he;split at he
 ·rename_i h6;subst h6;rw[he id cp];unfold gB;split
  ·trivial
  ·split
   ·intro o ho;exact⟨o,ho,uv o⟩
   ·intro o ho;exact ho
 ·rename_i h6;refine Iw ?_ he id;have:(ck==6)=false:=by simpa using h6
  rw[this]at h;simpa using h
def Sl{ops:Array Oper}{hh:Nat}{qi qk di dk:Bool}{oi ok:Oper}(ha:oi.apart ops ok=true)(hi:fq qi di oi<=2)(hc:(fq qi di oi==0||(fq qi di oi==1&&decide (fq qk dk ok<=4))||(fq qi di oi==2&&decide (fq qk dk ok<=3))||(decide (fq qi di oi<=2)&&fq qk dk ok==6))=true){σ:St}{K:St->Prop}(h:iv P ops hh qi di oi (iv P ops hh qk dk ok K) σ):iv P ops hh qk dk ok (iv P ops hh qi di oi K) σ:=by
 obtain⟨a1,a2,a3⟩:=Oper.apart_spec ha;obtain⟨v,h1,run⟩:=Iv hi h;obtain⟨vk,os,ux,h2,yc⟩:=AT h1;rw[AW]at ux yc;refine yc σ.env _ (λt ht=>(sP λd hd e=>a1 d hd (e▸ht)).symm) ?_;refine run _ _ (λt ht=>?_) (λid cp=>?_) ?_
 ·rw[sP λd hd e=>a3 d hd (e▸ht)]
 ·rw[AW];exact Sk hc ux id cp
 ·rw[AX]at h2;rw[AY (λd hd e=>a2 d e hd)];exact h2
def Sm{ops:Array Oper}{hh:Nat}{qi qk di dk:Bool}{oi ok:Oper}(ha:oi.apart ops ok=true)(hk:fq qk dk ok=0){σ:St}{K:St->Prop}(h:iv P ops hh qi di oi (iv P ops hh qk dk ok K) σ):iv P ops hh qk dk ok (iv P ops hh qi di oi K) σ:=by
 obtain⟨a1,a2,a3⟩:=Oper.apart_spec ha;obtain⟨vi,os,ux,h1,run⟩:=AT h;obtain⟨vk,h2,DK⟩:=Iv Ay h1;refine DK σ _ (λt ht=>(sP (σ:=⟨σ.env,os⟩) λd hd e=>a1 d hd (e▸ht)).symm) (λid _=>by rw[hk];simp[gB]) ?_;rw[Ix];refine run _ _ (λt ht=>sP λd hd e=>a3 d hd (e▸ht)) ?_;rw[AX,AY (λd hd e=>a2 d e hd)];exact h2
def Sn{ops:Array Oper}{hh:Nat}{qi qk di dk:Bool}{oi ok:Oper}(ha:oi.apart ops ok=true)(hc:AU (fq qi di oi) (fq qk dk ok)=true){σ:St}{K:St->Prop}(h:iv P ops hh qi di oi (iv P ops hh qk dk ok K) σ):iv P ops hh qk dk ok (iv P ops hh qi di oi K) σ:=by
 by_cases hk:fq qk dk ok=0
 ·exact Sm ha hk h
 ·have jr:(fq qi di oi==0||(fq qi di oi==1&&decide (fq qk dk ok<=4))||(fq qi di oi==2&&decide (fq qk dk ok<=3))||(decide (fq qi di oi<=2)&&fq qk dk ok==6))=true:=by
   simp only[AU,v9,jI,bd,beq_iff_eq,decide_eq_true_eq]at hc ⊢;rcases hc with(((h|h)|h)|h)|h
   ·exact .inl (.inl (.inl h))
   ·exact absurd h hk
   ·exact .inl (.inl (.inr h))
   ·exact .inl (.inr h)
   ·exact .inr h
  refine Sl ha ?_ jr h;simp only[jI,bd,beq_iff_eq,decide_eq_true_eq]at jr;omega
def ei(P:Program)(ops:Array Oper)(hh:Nat)(qs ds:List Nat)(i:Nat)(K:St->Prop)(σ:St):Prop :=
 match ops[i]? with
 |none=>K σ
 |some o=>iv P ops hh (qs.contains i) (ds.contains i) o K σ
def qb(P:Program)(ops:Array Oper)(hh:Nat)(qs ds:List Nat)(K:St->Prop):Nat->Array Bool->St->Prop
 |0,listed,σ=>Region.ready .any ops listed=[]/\K σ
 |n+1,listed,σ=>(Region.ready .any ops listed=[]->K σ)/\∀ i∈Region.ready .any ops listed,ei P ops hh qs ds i (qb P ops hh qs ds K n (listed.setIfInBounds i true)) σ
def So{ops:Array Oper}{hh:Nat}{q dc:Bool}{o:Oper}{σ:St}{K K2:St->Prop}(hk:∀ s,K s->K2 s)(h:iv P ops hh q dc o K σ):iv P ops hh q dc o K2 σ:=by
 obtain⟨v,os,_,h2,run⟩:=AT h;exact run σ.env K2 (λ_ _=>rfl) (hk _ h2)
def Sp{ops:Array Oper}{hh:Nat}{q dc:Bool}{o:Oper}{σ:St}{K:St->Prop}(h:iv P ops hh q dc o K σ):∃s,K s:=by
 obtain⟨v,os,_,h2,run⟩:=AT h;exact⟨_,h2⟩
def sQ{ops:Array Oper}{hh:Nat}{qs ds:List Nat}{i:Nat}{σ:St}{K K2:St->Prop}(hk:∀ s,K s->K2 s)(h:ei P ops hh qs ds i K σ):ei P ops hh qs ds i K2 σ:=by
 unfold ei at h ⊢;split at h
 ·exact hk _ h
 ·exact So hk h
def Sr{ops:Array Oper}{hh:Nat}{qs ds:List Nat}{i:Nat}{σ:St}{K:St->Prop}(h:ei P ops hh qs ds i K σ):∃s,K s:=by
 unfold ei at h;split at h
 ·exact⟨_,h⟩
 ·exact Sp h
def DL{os:List Ob}{γ0:Cx}{ops:Array Oper}{hh:Nat}{qs ds:List Nat}(hd:∀ o∈ops.toList,∀ d,o.dst=some d->d<N){K:St->Prop}{Q:Exit->Act->World->Prop}(hQ:∀ σ' a' w',K σ'->dM N os γ0 σ' a' w'->Q .normal a' w'):∀ (n:Nat) (listed:Array Bool) (σ:St) (a:Act) (w:World),qb P ops hh qs ds K n listed σ->dM N os γ0 σ a w->wpAny P .any ops Q n listed a w
 |0,listed,σ,a,w,h,aV=>⟨h.1,hQ _ _ _ h.2 aV⟩
 |n+1,listed,σ,a,w,h,aV=>by
  refine⟨λhr=>hQ _ _ _ (h.1 hr) aV,λi hi=>?_⟩;have:=h.2 i hi;unfold ei at this;split at this
  ·rename_i hi';unfold wpOp;simp only[hi'];exact DL hd hQ n _ _ _ _ this aV
  ·rename_i o hi';exact Sg hd hi' this aV λσ' a' w' hK cW=>DL hd hQ n _ _ _ _ hK cW
def Ss{id:Nat}{ops:Array Oper}{Q:Exit->St->Prop}(hh:Nat)(qs ds:List Nat)(hm:P.follows .mixedOrders=true)(hd:eJ N ops=true)(h:qb P ops hh qs ds (Q .normal) ops.size (ua ops.size false) σ):W P N n0 (.region id ops true) Q σ:=by
 intro os γ0 a w _ aV;refine wp_region_any hm ?_;exact DL (kE hd) (K:=Q .normal) (λσ' a' w' hK cW=>⟨σ',hK,cW⟩) _ _ _ _ _ h aV.drawn
def Su{ops:Array Oper}{hh:Nat}{qs ds:List Nat}{K:St->Prop}{i:Nat}{o:Oper}(hi:ops[i]?=some o)(D:List Nat)(Sv:i∈D)(hD:∀ j∈D,j=i\/∃ oj,ops[j]?=some oj/\∃ e∈oj.after,Region.binds .any e=true/\e.on∈D):∀ (fuel:Nat) (listed:Array Bool) (σ:St),(∀ j∈D,listed.getD j true=false) ->
   i∈Region.ready .any ops listed ->
   (∀ j oj,ops[j]?=some oj->listed.getD j true=false->j ∉ D->o.apart ops oj=true/\AU (fq (qs.contains i) (ds.contains i) o) (fq (qs.contains j) (ds.contains j) oj)=true) ->
   ei P ops hh qs ds i (qb P ops hh qs ds K fuel (listed.setIfInBounds i true)) σ->qb P ops hh qs ds K (fuel+1) listed σ:=by
 intro fuel
 induction fuel with
 |zero =>
  intro listed σ hu hr lH h;refine⟨λe=>by rw[e]at hr;simp at hr,λk hk=>?_⟩;by_cases eA:k=i
  ·subst eA;exact h
  ·obtain⟨s,hs⟩:=Sr h;have:=ready_mono hk eA;rw[hs.1]at this;simp at this
 |succ m ih =>
  intro listed σ hu hr lH h;refine⟨λe=>by rw[e]at hr;simp at hr,λk hk=>?_⟩;by_cases eA:k=i
  ·subst eA;exact h
  ·have gT:=mem_ready.1 hk;obtain⟨eT,ok,aV,cL⟩:=gT;have oW:k ∉ D:=by
    intro oW;rcases hD k oW with e|⟨oj,iT,e,he,hb,mq⟩
    ·exact eA e
    ·rw[aV]at iT;simp only[Option.some.injEq]at iT;subst iT;have h1:=cL e he hb;have h2:=hu e.on mq;rw[Array.getD_eq_getD_getElem?]at h1 h2;cases hx:listed[e.on]? with
     |none=>rw[hx]at h1;simp at h1
     |some b=>rw[hx]at h1 h2;simp at h1 h2;rw[h1]at h2;simp at h2
   obtain⟨ha,hc⟩:=lH k ok aV eT oW;have h1:ei P ops hh qs ds i (ei P ops hh qs ds k (qb P ops hh qs ds K m ((listed.setIfInBounds i true).setIfInBounds k true))) σ :=
    sQ (λs hs=>hs.2 k (ready_mono hk eA)) h
   have h2:ei P ops hh qs ds k (ei P ops hh qs ds i (qb P ops hh qs ds K m ((listed.setIfInBounds i true).setIfInBounds k true))) σ:=by
    unfold ei at h1 ⊢;simp only[hi,aV]at h1 ⊢;exact Sn ha hc h1
   refine sQ (λs hs=>?_) h2;refine ih (listed.setIfInBounds k true) s (λj hj=>?_) (ready_mono hr (Ne.symm eA)) (λj oj iT hl uy=>?_) ?_
   ·have bI:k≠j:=λe=>oW (by rw[e];exact hj);rw[getD_set_ne _ bI];exact hu j hj
   ·refine lH j oj iT ?_ uy;by_cases mr:k=j
    ·subst mr;exact eT
    ·rwa [getD_set_ne _ mr]at hl
   ·rw[Array.setIfInBounds_comm _ _ (Ne.symm eA)]at hs;exact hs
def DM(ops:Array Oper)(qs ds:List Nat)(listed:Array Bool)(i:Nat)(D:List Nat):Bool :=
 match ops[i]? with
 |none=>false
 |some o =>
  D.contains i&&D.all (λj=>j==i||match ops[j]? with|some oj=>oj.after.any (λe=>Region.binds .any e&&D.contains e.on)|none=>false) &&
  D.all (λj=>!listed.getD j true)&&o.after.all (λe=>!Region.binds .any e||listed.getD e.on false) &&
  (bD ops.size).all λj=>D.contains j||listed.getD j true||match ops[j]? with|some oj=>o.apart ops oj&&AU (fq (qs.contains i) (ds.contains i) o) (fq (qs.contains j) (ds.contains j) oj)|none=>true
def Sw{ops:Array Oper}{hh:Nat}{qs ds:List Nat}{K:St->Prop}{i:Nat}{D:List Nat}{fuel:Nat}{listed:Array Bool}(h:DM ops qs ds listed i D=true)(hs:ei P ops hh qs ds i (qb P ops hh qs ds K fuel (listed.setIfInBounds i true)) σ):qb P ops hh qs ds K (fuel+1) listed σ:=by
 unfold DM at h;cases hi:ops[i]? with
 |none=>simp[hi]at h
 |some o =>
  simp only[hi,bd,gN,ml,jI,beq_iff_eq,g7]at h;obtain⟨⟨⟨⟨h1,h2⟩,h3⟩,h4⟩,h5⟩:=h;refine Su hi D h1 (λj hj=>?_) fuel listed σ h3 ?_ ?_ hs
  ·rcases h2 j hj with h|h
   ·exact .inl h
   ·right;split at h
    ·rename_i oj iT;rw[Array.any_eq_true']at h;obtain⟨e,he,hb⟩:=h;simp only[bd,ml]at hb;exact⟨oj,iT,e,he,hb.1,hb.2⟩
    ·simp at h
  ·rw[mem_ready];refine⟨h3 i h1,o,hi,λe he hb=>?_⟩;rw[Array.all_eq_true']at h4;have:=h4 e he;simpa [hb] using this
  ·intro j oj iT hl uy;have hj:j<ops.size:=(kU.1 iT).1;rcases h5 j (kA.2 hj) with(h|h)|h
   ·exact absurd h uy
   ·rw[hl]at h;simp at h
   ·simpa [iT] using h
def PT.lI(ops:Array Oper)(qs ds:List Nat):PT->Nat->Array Bool->Bool
 |.nil,n,listed=>n==0&&(Region.ready .any ops listed).isEmpty
 |.take _ _,0,_=>false
 |.take i t,n+1,listed=>DM ops qs ds listed i (DN ops i)&&t.lI ops qs ds n (listed.setIfInBounds i true)
 |.both _ _ _ _,0,_=>false
 |.both i t j u,n+1,listed=>(Region.ready .any ops listed==[i,j])&&t.lI ops qs ds n (listed.setIfInBounds i true)&&u.lI ops qs ds n (listed.setIfInBounds j true)
 |.three _ _ _ _ _ _,0,_=>false
 |.three i t j u k v,n+1,listed=>(Region.ready .any ops listed==[i,j,k])&&t.lI ops qs ds n (listed.setIfInBounds i true)&&u.lI ops qs ds n (listed.setIfInBounds j true)&&v.lI ops qs ds n (listed.setIfInBounds k true)
def ke(P:Program)(ops:Array Oper)(hh:Nat)(qs ds:List Nat):PT->(St->Prop)->St->Prop
 |.nil,K,σ=>K σ
 |.take i t,K,σ=>ei P ops hh qs ds i (ke P ops hh qs ds t K) σ
 |.both i t j u,K,σ=>ei P ops hh qs ds i (ke P ops hh qs ds t K) σ/\ei P ops hh qs ds j (ke P ops hh qs ds u K) σ
 |.three i t j u k v,K,σ=>ei P ops hh qs ds i (ke P ops hh qs ds t K) σ/\ei P ops hh qs ds j (ke P ops hh qs ds u K) σ/\ei P ops hh qs ds k (ke P ops hh qs ds v K) σ
def uz{ops:Array Oper}{hh:Nat}{qs ds:List Nat}{K:St->Prop}:∀ (t:PT) (n:Nat) (listed:Array Bool) (σ:St),t.lI ops qs ds n listed=true->ke P ops hh qs ds t K σ->qb P ops hh qs ds K n listed σ
 |.nil,n,listed,σ,h,hp=>by
  simp only[PT.lI,bd,beq_iff_eq,List.isEmpty_iff]at h;obtain⟨rfl,h⟩:=h;exact⟨h,hp⟩
 |.take _ _,0,_,_,h,_=>by simp[PT.lI]at h
 |.take i t,n+1,listed,σ,h,hp=>by
  simp only[PT.lI,bd]at h;exact Sw h.1 (sQ (λs hs=>uz t n _ s h.2 hs) hp)
 |.both _ _ _ _,0,_,_,h,_=>by simp[PT.lI]at h
 |.both i t j u,n+1,listed,σ,h,hp=>by
  simp only[PT.lI,bd,beq_iff_eq]at h;obtain⟨⟨h1,h2⟩,h3⟩:=h;refine⟨λe=>by rw[h1]at e;simp at e,λk hk=>?_⟩;rw[h1]at hk;simp only[cD,qS,or_false]at hk;rcases hk with rfl|rfl
  ·exact sQ (λs hs=>uz t n _ s h2 hs) hp.1
  ·exact sQ (λs hs=>uz u n _ s h3 hs) hp.2
 |.three _ _ _ _ _ _,0,_,_,h,_=>by simp[PT.lI]at h
 |.three i t j u k v,n+1,listed,σ,h,hp=>by
  simp only[PT.lI,bd,beq_iff_eq]at h;obtain⟨⟨⟨h1,h2⟩,h3⟩,h4⟩:=h;refine⟨λe=>by rw[h1]at e;simp at e,λx hk=>?_⟩;rw[h1]at hk;simp only[cD,qS,or_false]at hk;rcases hk with rfl|rfl|rfl
  ·exact sQ (λs hs=>uz t n _ s h2 hs) hp.1
  ·exact sQ (λs hs=>uz u n _ s h3 hs) hp.2.1
  ·exact sQ (λs hs=>uz v n _ s h4 hs) hp.2.2
def DO{id:Nat}{ops:Array Oper}{Q:Exit->St->Prop}(hh:Nat)(qs ds:List Nat)(t:PT)(hm:P.follows .mixedOrders=true)(hd:eJ N ops=true)(ht:t.lI ops qs ds ops.size (ua ops.size false)=true)(h:ke P ops hh qs ds t (Q .normal) σ):W P N n0 (.region id ops true) Q σ :=
 Ss hh qs ds hm hd (uz t _ _ σ ht h)
def Iy{ops:Array Oper}{hh:Nat}{qs ds:List Nat}{K:St->Prop}:ke P ops hh qs ds .nil K σ=K σ:=rfl
def Iz{ops:Array Oper}{hh:Nat}{qs ds:List Nat}{i:Nat}{t:PT}{K:St->Prop}:ke P ops hh qs ds (.take i t) K σ=ei P ops hh qs ds i (ke P ops hh qs ds t K) σ:=rfl
def IA{ops:Array Oper}{hh:Nat}{qs ds:List Nat}{i j k:Nat}{t u v:PT}{K:St->Prop}:ke P ops hh qs ds (.three i t j u k v) K σ=(ei P ops hh qs ds i (ke P ops hh qs ds t K) σ/\ei P ops hh qs ds j (ke P ops hh qs ds u K) σ/\ei P ops hh qs ds k (ke P ops hh qs ds v K) σ):=rfl
def IB{ops:Array Oper}{hh:Nat}{qs ds:List Nat}{i j:Nat}{t u:PT}{K:St->Prop}:ke P ops hh qs ds (.both i t j u) K σ=(ei P ops hh qs ds i (ke P ops hh qs ds t K) σ/\ei P ops hh qs ds j (ke P ops hh qs ds u K) σ):=rfl
def IC{ops:Array Oper}{hh:Nat}{q:Bool}{o:Oper}{K:St->Prop}:iv P ops hh q true o K σ=(o.guard=none/\sO hh P o σ K):=rfl
def ID{ops:Array Oper}{hh:Nat}{q:Bool}{o:Oper}{K:St->Prop}:iv P ops hh q false o K σ=(dW hh q o σ=true/\cQ P ops q o K σ):=rfl
def IE(P:Program)(hh:Nat)(dst:Option Tmp)(args:List AV)(K:St->Prop)(σ:St):AV->Prop
 |.fn g bB=>x9 P hh g (args++bB) dst K σ
 |_=>False
def IF{hh:Nat}{dst:Option Tmp}{args:List AV}{K:St->Prop}{g:FuncId}{bB:List AV}:IE P hh dst args K σ (.fn g bB)=x9 P hh g (args++bB) dst K σ:=rfl
section
variable {dst:Option Tmp} {tt:TypeId} {p:String} {af:Array Edge} {g:Option (Nat×Bool)} {K:St->Prop} {hh:Nat}
def IG(f:Operand)(args:Array Operand)(dV:Array TypeId):sO hh P ⟨dst,.call ⟨.value f,args,dV⟩,tt,p,af,g⟩ σ K=IE P hh dst (args.toList.map (ev σ)) K σ (ev σ f):=by
 simp only[sO];cases ev σ f<;>rfl
def IH{o:Oper}:dW hh true o σ=true:=by simp[dW]
def II(t:TypeId)(a:Operand):dW hh false ⟨dst,.load t a,tt,p,af,g⟩ σ=k8 hh (ev σ a):=by simp[dW,cls,Op.operands,nY]
def IJ(t:TypeId)(a:Operand)(f:Nat):dW hh false ⟨dst,.fieldAddr t a f,tt,p,af,g⟩ σ=k8 hh (ev σ a):=by simp[dW,cls,Op.operands,nY]
def IK(a:Operand):dW hh false ⟨dst,.nilCheck a,tt,p,af,g⟩ σ=k8 hh (ev σ a):=by simp[dW,cls,Op.operands,nY]
def IL(t:TypeId)(a i:Operand):dW hh false ⟨dst,.indexAddr t a i,tt,p,af,g⟩ σ=(k8 hh (ev σ a)&&k8 hh (ev σ i)):=by simp[dW,cls,Op.operands,nY]
def IM(x:Operand)(dV:Array TypeId):dW hh false ⟨dst,.call ⟨.builtin .len,#[x],dV⟩,tt,p,af,g⟩ σ=k8 hh (ev σ x):=by simp[dW,cls,Op.operands,Call.operands,nY]
def kf{o:Oper}(h:(cls o.op==0||decide (3<=cls o.op))=true):dW hh false o σ=true:=by simp only[dW,mn,h,Bool.true_or]
def IN(id r c:Nat):k8 hh (.ptr id r c) = !(id==hh):=rfl
def IP(id a b c:Nat):k8 hh (.ref id a b c) = !(id==hh):=rfl
def IQ(v:Value):k8 hh (.lit v)=true:=rfl
def IS(s:Nat)(r:List (List AV)):k8 hh (.tree s r)=true:=rfl
def IT(r:List AV):k8 hh (.cm r)=true:=rfl
def IU(r:List AV):k8 hh (.agg r)=true:=rfl
def IV(r:List AV):k8 hh (.bP r)=true:=rfl
def IW:k8 hh .undef=true:=rfl
def IX(x:Operand):dW hh false ⟨dst,.move x,tt,p,af,g⟩ σ=true:=kf aaf
def IY(x:Operand):dW hh false ⟨dst,.assign x,tt,p,af,g⟩ σ=true:=kf aaf
def IZ(c a b:Operand):dW hh false ⟨dst,.pick c a b,tt,p,af,g⟩ σ=true:=kf aaf
def I0(op:BinOp)(t:TypeId)(x y:Operand)(yt:TypeId):dW hh false ⟨dst,.binOp op t x y yt,tt,p,af,g⟩ σ=true:=kf aaf
def I1(op:UnOp)(t:TypeId)(x:Operand):dW hh false ⟨dst,.unOp op t x,tt,p,af,g⟩ σ=true:=kf aaf
def I2(fn:Fn)(a b:Array Operand):dW hh false ⟨dst,.makeFunc fn a b,tt,p,af,g⟩ σ=true:=kf aaf
def I3(s:TypeId)(x:Operand)(f:Nat):dW hh false ⟨dst,.field s x f,tt,p,af,g⟩ σ=true:=kf aaf
def I4(x:Operand)(i:Nat):dW hh false ⟨dst,.extract x i,tt,p,af,g⟩ σ=true:=kf aaf
def I5(t:TypeId)(parts:Array (Nat×Operand)):dW hh false ⟨dst,.build t parts,tt,p,af,g⟩ σ=true:=kf aaf
def I6(e:TypeId):dW hh false ⟨dst,.alloc e,tt,p,af,g⟩ σ=true:=kf aaf
def I7(e:TypeId)(x:Operand):dW hh false ⟨dst,.box e x,tt,p,af,g⟩ σ=true:=kf aaf
def I8(t:TypeId)(l c:Operand):dW hh false ⟨dst,.makeSlice t l c,tt,p,af,g⟩ σ=true:=kf aaf
def I9(t:TypeId)(len:Nat)(parts:Array (Nat×Operand)):dW hh false ⟨dst,.buildSlice t len parts,tt,p,af,g⟩ σ=true:=kf aaf
def I'(t:TypeId)(a x:Operand):dW hh false ⟨dst,.store t a x,tt,p,af,g⟩ σ=true:=kf aaf
def Ja(f:Operand)(args:Array Operand)(dV:Array TypeId):dW hh false ⟨dst,.call ⟨.value f,args,dV⟩,tt,p,af,g⟩ σ=true:=kf aaf
def Jb(args:Array Operand)(dV:Array TypeId):dW hh false ⟨dst,.call ⟨.builtin .append,args,dV⟩,tt,p,af,g⟩ σ=true:=kf aaf
def Jc(args:Array Operand)(dV:Array TypeId):dW hh false ⟨dst,.call ⟨.builtin .min,args,dV⟩,tt,p,af,g⟩ σ=true:=kf aaf
def Jd(args:Array Operand)(dV:Array TypeId):dW hh false ⟨dst,.call ⟨.builtin .max,args,dV⟩,tt,p,af,g⟩ σ=true:=kf aaf
end
def Hc:=aav @Iy @Iz @IA @IB @IC @ID @IF (aav @IG @IH @II @IJ @IK @IL @IM (aav @IN @IP @IQ @IS @IT @IU @IV (aav @IW @IX @IY @IZ @I0 @I1 @I2 (aav @I3 @I4 @I5 @I6 @I7 @I8 @I9 (aao @I' @Ja @Jb @Jc @Jd)))))
def wa{hh:Nat}{f:FuncId}{args cu:List AV}{D D':Ob}{dst:Option Tmp}{K:St->Prop}{res:AV}(h:ao P f cu [D] res [D'])(h1:sM D=true)(h2:sM D'=true)(h3:σ.aa[hh]?=some D)(h4:iu res=true)(h5:jQ (Ip hh) cu args)(hK:K ((⟨σ.env,σ.aa.set hh D'⟩:St).put dst res)):x9 P hh f args dst K σ:=⟨cu,D,res,D',h,h1,h2,h3,h4,h5,hK⟩
def uA{P:Program}{N n0:Nat}{σ:St}{Q:Exit->St->Prop}(n:Nat){id:Nat}{ops:Array Oper}(hd:eJ N ops=true)(o:Oper)(ho:ops[n]?=some o)(h:∀ K:St->Prop,(∀ s,Q .normal s->K s)->opsL P ops (ops.toList.take n) (wc P o (opsL P ops (ops.toList.drop (n+1)) K)) σ):W P N n0 (.region id ops false) Q σ:=by
 intro os γ0 a w hn aV;refine wp_region ?_;have fC:n<ops.size:=(kU.1 ho).1;have e:bD ops.size=jJ 0 (ops.toList.take n).length++(n::jJ (n+1) (ops.toList.drop (n+1)).length):=by
  rw[List.range_eq_range',<- List.range'_succ];have:=List.range'_append (s:=0) (m:=n) (n:=(ops.toList.drop (n+1)).length+1) (step:=1);simp only[Nat.zero_add,Nat.one_mul]at this;rw[show(ops.toList.take n).length=n by simp;omega,this];congr 1;simp;omega
 rw[e];refine sR _ a w ?_;refine mu (kE hd) (K:=wc P o (opsL P ops (ops.toList.drop (n+1)) (Q .normal))) (λσ' a' w' hk cW=>?_) (ops.toList.take n) 0 σ a w (λk hk=>?_) (h _ (λ_ h=>h)) aV
 ·show wpOps P ops _ _ a' w';rw[wpOps_cons];unfold wpOp;simp only[ho];have hw:Region.wanted o (yielded ops a'.tmps)=true:=by simp[Region.wanted,hk.1]
  rw[if_pos hw];left;refine Je hk cW (kE hd o (fB (by simpa using ho))) (λσ2 a2 w2 aK uB=>?_);refine mu (kE hd) (K:=Q .normal) (λq9 a3 w3 eL q'=>⟨q9,eL,q'⟩) (ops.toList.drop (n+1)) (n+1) σ2 a2 w2 (λk hk=>?_) aK uB;rw[List.getElem?_drop];simp
 ·simp only[List.length_take,Array.length_toList]at hk;rw[List.getElem?_take_of_lt Ay];simp
end Go.Am
namespace Go.Am
variable {P:Program} {N n0:Nat} {σ:St} {Q:Exit->St->Prop}
def re:Exit->Bool
 |.normal=>true
 |_=>false
def yd(id:Nat):Exit->Bool
 |.normal=>true
 |.exit j=>j==id
 |_=>false
def Jf{e:Exit}(h:re e=false):e≠.normal:=by intro h2;subst h2;simp[re]at h
def Jg{id:Nat}{e:Exit}(h:yd id e=false):e≠.normal/\e≠.exit id:=by
 constructor
 ·intro h2;subst h2;simp[yd]at h
 ·intro h2;subst h2;simp[yd]at h
theorem rk{id:Nat}{ops:Array Oper}{y:Code}(h:∀ K:St->Prop,(∀ s,W P N n0 y Q s->K s)->opsL P ops ops.toList K σ)(hd:eJ N ops=true:=by decide):W P N n0 (.seq (.region id ops false) y) Q σ:=Jh hd h
theorem Sx{id:Nat}{ops:Array Oper}(h:∀ K:St->Prop,(∀ s,Q .normal s->K s)->opsL P ops ops.toList K σ)(hd:eJ N ops=true:=by decide):W P N n0 (.region id ops false) Q σ:=Sy hd h
theorem rd{id:Nat}{ops:Array Oper}{y:Code}(h:∀ K:St->Prop,(∀ s,W P N n0 y Q s->K s)->opsL P ops ops.toList K σ)(hm:P.follows .mixedOrders=true:=by rfl)(hd:eJ N ops=true:=by decide)(ht:uC ops=true:=by decide +kernel):W P N n0 (.seq (.region id ops true) y) Q σ:=Sz hm hd ht h
theorem SA{id:Nat}{ops:Array Oper}(h:∀ K:St->Prop,(∀ s,Q .normal s->K s)->opsL P ops ops.toList K σ)(hm:P.follows .mixedOrders=true:=by rfl)(hd:eJ N ops=true:=by decide)(ht:uC ops=true:=by decide +kernel):W P N n0 (.region id ops true) Q σ:=SD hm hd ht h
theorem rb{id:Nat}{ops:Array Oper}{y:Code}(h:∀ K:St->Prop,(∀ s,W P N n0 y Q s->K s)->nW P ops ops.toList K σ)(hm:P.follows .mixedOrders=true:=by rfl)(hd:eJ N ops=true:=by decide)(ht:AN ops=true:=by decide +kernel):W P N n0 (.seq (.region id ops true) y) Q σ:=R8 hm hd ht h
theorem ye{id:Nat}{ops:Array Oper}(h:∀ K:St->Prop,(∀ s,Q .normal s->K s)->nW P ops ops.toList K σ)(hm:P.follows .mixedOrders=true:=by rfl)(hd:eJ N ops=true:=by decide)(ht:AN ops=true:=by decide +kernel):W P N n0 (.region id ops true) Q σ:=R9 hm hd ht h
theorem ra{id:Nat}{ops:Array Oper}{y:Code}(h:∀ K:St->Prop,(∀ s,W P N n0 y Q s->K s)->nV P ops ops.toList K σ)(hm:P.follows .mixedOrders=true:=by rfl)(hd:eJ N ops=true:=by decide)(ht:AK ops=true:=by decide +kernel):W P N n0 (.seq (.region id ops true) y) Q σ:=R5 hm hd ht h
theorem yf{id:Nat}{ops:Array Oper}(h:∀ K:St->Prop,(∀ s,Q .normal s->K s)->nV P ops ops.toList K σ)(hm:P.follows .mixedOrders=true:=by rfl)(hd:eJ N ops=true:=by decide)(ht:AK ops=true:=by decide +kernel):W P N n0 (.region id ops true) Q σ:=R6 hm hd ht h
def Wk{x y:Code}(h:∀ Q':Exit->St->Prop,(∀ s,W P N n0 y Q s->Q' .normal s)->(∀ e s,re e=false->Q e s->Q' e s)->W P N n0 x Q' σ):W P N n0 (.seq x y) Q σ :=
 SE λQ' h1 h2=>h Q' h1 λe s he=>h2 e s (Jf he)
def Wb{id:Nat}{c:Code}(h:∀ Q':Exit->St->Prop,(∀ s,Q .normal s->Q' .normal s)->(∀ s,Q .normal s->Q' (.exit id) s)->(∀ e s,yd id e=false->Q e s->Q' e s)->W P N n0 c Q' σ):W P N n0 (.block id c) Q σ :=
 SF λQ' h1 h2 h3=>h Q' h1 h2 λe s he=>h3 e s (Jg he).1 (Jg he).2
theorem Wc{c:Operand}{x y:Code}{t:Bool}(ht:t=true->W P N n0 x Q σ)(hf:t=false->W P N n0 y Q σ)(hc:ev σ c=.lit (.bool t):=by(simp only[Go.Am.rf,Go.Am.Lc,↓reduceIte,Nat.reduceEqDiff,Nat.reduceBEq];exact rfl)):W P N n0 (.cond c x y) Q σ:=SG hc ht hf
def aX{α:Type}{c:Code}(S:α->St)(I:α->Prop)(M:α->Nat)(x0:α)(hI:I x0)(h0:aC n0 σ (S x0))(round:∀ x,I x->∀ Q':Exit->St->Prop,(∀ s y,I y->M y<M x->aC n0 s (S y)->Q' .normal s)->(∀ e s,re e=false->Q e s->Q' e s)->W P N n0 c Q' (S x)):W P N n0 (.loop c) Q σ :=
 SH S I M x0 hI h0 λx hx Q' h1 h2=>round x hx Q' h1 λe s he=>h2 e s (Jf he)
end Go.Am
namespace Go.Am
variable {P:Program} {N n0:Nat} {σ:St} {Q:Exit->St->Prop}
end Go.Am

