import Derived.Test.YtjadfapldkfbpaaGreatX07
import Derived.Laws.StructEq
set_option linter.all false
set_option maxHeartbeats 0
set_option maxRecDepth 20000
open List renaming drop_drop→Kt,take_append_drop→DH,map_cons→dK,range→aZ,contains_iff_mem→qh,mem_filter→z8,mem_range→mi,tail_drop→G4,getElem?_append_left→dg,getElem?_append_right→fO,all_eq_true→gV,mem_cons→cu,mem_of_getElem?→gY,map_congr_left→oM,mem_append→cz,isEmpty_iff→PO,not_mem_nil→jQ,range'→n5,range_eq_range'→xp,range'_succ→xn,range'_append→Kl,getElem?_drop→oL,length_take→fy,getElem?_take_of_lt→Kk
open Bool renaming false_eq_true→ju,and_eq_true→bk,eq_iff_iff→mR,not_eq_true'→kz,true_and→eX,false_and→jE,false_or→lF,or_eq_true→kB
open Array renaming getElem?_eq_some_iff→pB,toList_append→BR,replicate→vR,length_toList→vN
open Nat renaming zero_add→gf,one_mul→tu
namespace Go.Am
variable {P:Program}
def za(P:Program):List Field->Nat->Nat->Bool
 |[],o,n=>o==n
 |f::fs,o,n=>f.offset==o&&za P fs (o+P.cellsOf f.type) n
def wo(P:Program):Nat->TypeId->Bool
 |0,_=>false
 |d+1,t =>
  match P.underlying t with
  |some (.int .i64)=>P.cellsOf t==1
  | some (.struct fs) => (P.info? t).isSome && !P.stoodInHeld t && za P fs.toList 0 (P.cellsOf t) && fs.toList.all λf => f.name != "_" && wo P d f.type
  |_=>false
def wq(P:Program)(t:TypeId)(xs:List Int):Value :=
 match P.underlying t with
 |some (.struct _)=>.agg (xs.map (Value.int .i64)).toArray
 |_=>.int .i64 (xs.getD 0 0)
def Sn{as bs:List Int}{o c:Nat}(h:as.length=bs.length):as.drop o=bs.drop o↔(as.drop o).take c=(bs.drop o).take c/\as.drop (o+c)=bs.drop (o+c):=by
 constructor
 ·intro e;refine⟨by rw[e],?_⟩;rw[<- Kt,<- Kt,e]
 ·rintro⟨e1,e2⟩;rw[<- Kt,<- Kt]at e2;rw[<- DH c (as.drop o),<- DH c (bs.drop o),e1,e2]
def So(w:World){d:Nat}{t:TypeId}(h:wo P d t=true){as:List Int}{o:Nat}(ho:o+P.cellsOf t<=as.length):
  (part t (as.map (Value.int .i64)).toArray o).run P w=.ok (wq P t ((as.drop o).take (P.cellsOf t))) w:=by
 cases d with
 |zero=>simp[wo]at h
 |succ d =>
  unfold wo at h;cases hu:P.underlying t with
  |none=>simp[hu]at h
  |some k =>
   rw[hu]at h;cases k<;>try(simp at h;done)
   case int q =>
    cases q<;>try(simp at h;done)
    have hc:P.cellsOf t=1:=by simpa using h
    rw[hc]at ho;have hx:((as.map (Value.int .i64)).toArray)[o]?=some (.int .i64 (as.getD o 0)):=by
     have:o<as.length:=G3;simp[this]
    simp only[part,isAgg,Sem.run_bind,run_underlying hu,Result.andThen_ok,Sem.run_pure,ju,if_false,Sem.run_ite,hx];have:o<as.length:=G3;simp[wq,hu,hc,this]
   case struct fs =>
    simp only[bk]at h;obtain⟨i,hi⟩:=Option.isSome_iff_exists.1 h.1.1.1;have hs:∀ w,(sizeOf t).run P w=.ok (P.cellsOf t) w:=λw=>by
     simp[sizeOf,typeInfo,Program.cellsOf,hi,run_program]
    simp only[part,isAgg,Sem.run_bind,run_underlying hu,Result.andThen_ok,Sem.run_pure,if_true,Sem.run_ite,hs];simp only[wq,hu];congr 2;simp[List.map_take,List.map_drop]
def Sp{D d:Nat}(ih:∀ t,wo P d t=true->∀ (w:World) (as bs:List Int),as.length=P.cellsOf t->bs.length=P.cellsOf t->(Op.equalIn (D+d) t (wq P t as) (wq P t bs)).run P w=.ok (decide (as=bs)) w){as bs:List Int}(hl:as.length=bs.length):
  ∀ (fs : List Field) (o : Nat) (w : World), za P fs o as.length = true -> (fs.all λf => f.name != "_" && wo P d f.type) = true ->
   o+(fs.map λf=>P.cellsOf f.type).sum=as.length->(Op.eqFields (D+d) (as.map (Value.int .i64)).toArray (bs.map (Value.int .i64)).toArray fs).run P w=.ok (decide (as.drop o=bs.drop o)) w
 |[],o,w,ht,_,hs=>by
  have:o=as.length:=by simpa [za] using ht
  subst this;have:bs.drop as.length=[]:=List.drop_eq_nil_of_le G3;simp[Op.eqFields,this]
 |f::fs,o,w,ht,ha,hs=>by
  simp only[za,bk,beq_iff_eq]at ht;obtain⟨rfl,ht⟩:=ht;simp only[List.all_cons,bk,bne_iff_ne]at ha;simp only[dK,List.sum_cons]at hs;have h1:=So (as:=as) w ha.1.2 (o:=f.offset) G3;have h2:=So (as:=bs) w ha.1.2 (o:=f.offset) G3;have h3:=ih f.type ha.1.2 w ((as.drop f.offset).take (P.cellsOf f.type)) ((bs.drop f.offset).take (P.cellsOf f.type)) PX PX;have h4:=Sp ih hl fs (f.offset+P.cellsOf f.type) w ht ha.2 G3;simp only[Op.eqFields];rw[if_pos ha.1.1];simp only[Sem.run_bind,h1,h2,h3,Result.andThen_ok,Sem.run_ite,Sem.run_pure,h4];by_cases he:(as.drop f.offset).take (P.cellsOf f.type)=(bs.drop f.offset).take (P.cellsOf f.type)
  ·rw[decide_eq_true he];simp only[Bool.not_true,ju,if_false];congr 1;rw[decide_eq_decide,Sn (o:=f.offset) (c:=P.cellsOf f.type) hl];simp[he]
  ·rw[decide_eq_false he];simp only[Bool.not_false,if_true];congr 1;rw[eq_comm,decide_eq_false_iff_not,Sn (o:=f.offset) (c:=P.cellsOf f.type) hl];exact λh=>he h.1
def Sr:∀ (fs:List Field) (o n:Nat),za P fs o n=true->o+(fs.map λf=>P.cellsOf f.type).sum=n
 |[],o,n,h=>by simpa [za] using h
 |f::fs,o,n,h=>by
  simp only[za,bk,beq_iff_eq]at h;have:=Sr fs _ n h.2;simp only[dK,List.sum_cons];omega
def Ss(D:Nat):∀ (d:Nat) (t:TypeId),wo P d t=true->∀ (w:World) (as bs:List Int),as.length=P.cellsOf t->bs.length=P.cellsOf t->(Op.equalIn (D+d) t (wq P t as) (wq P t bs)).run P w=.ok (decide (as=bs)) w
 |0,t,h=>by simp[wo]at h
 |d+1,t,h=>by
  intro w as bs ha hb;unfold wo at h;cases hu:P.underlying t with
  |none=>simp[hu]at h
  |some k =>
   rw[hu]at h;cases k<;>try(simp at h;done)
   case int q =>
    cases q<;>try(simp at h;done)
    have hc:P.cellsOf t=1:=by simpa using h
    rw[hc]at ha hb
    match as,bs,ha,hb with
    |[a],[b],_,_ =>
     simp only[wq,hu,List.getD_cons_zero];rw[show D+(d+1)=(D+d)+1 from rfl,run_equalIn_int w (D+d) t .i64 .i64 a b hu];congr 1;rw[mR];simp
   case struct fs =>
    simp only[bk,kz]at h;have hf:P.fieldsOf t=fs:=by simp[Program.fieldsOf,hu]
    simp only[wq,hu];rw[show D+(d+1)=(D+d)+1 from rfl,run_equalIn_struct w (D+d) t _ _ (by rw[hf];exact hu) h.1.1.2,hf];have:=Sp (D:=D) (Ss D d) (as:=as) (bs:=bs) G3 fs.toList 0 w (by rw[ha];exact h.1.2) h.2 (by rw[ha];exact Sr _ _ _ h.1.2);simpa using this
def L1(P:Program)(d:Nat)(t:TypeId)(n:Nat):Bool :=
 (match P.underlying t with|some (.struct _)=>true|_=>false)&&decide (d<=10000)&&wo P d t&&(P.cellsOf t==n)
def v9.of{t:TypeId}(d:Nat){n:Nat}(h:L1 P d t n=true):v9 P t n:=by
 intro w as bs ha hb;simp only[L1,bk,decide_eq_true_eq,beq_iff_eq]at h;obtain⟨⟨⟨h1,hd⟩,h2⟩,h3⟩:=h;have:=Ss (10000-d) d t h2 w as bs G3 G3;rw[Nat.sub_add_cancel hd]at this;cases hu:P.underlying t with
 |none=>rw[hu]at h1;simp at h1
 |some k =>
  cases k<;>rw[hu]at h1<;>try(simp at h1;done)
  simpa only[wq,hu] using this
end Go.Am
namespace Go.Am
variable {P:Program} {N n0:Nat} {σ:St} {Q:Exit->St->Prop}
def vc(o:Oper):Bool :=
 match o.op with
 |.call c=>match c.callee with
  |.value _=>true
  |_=>false
 |_=>false
def Cy(ops:Array Oper):List Nat:=(aZ ops.size).filter λi=>match ops[i]? with|some o=>vc o|none=>false
def tQ(P:Program)(ops:Array Oper):List Oper->(St->Prop)->St->Prop
 |[],K,σ=>K σ
 |o::r,K,σ=>e7 P ops (vc o) o (tQ P ops r K) σ
def Su{ops:Array Oper}{K:St->Prop}:tQ P ops [] K σ=K σ:=by simp only[tQ]
def L3{ops:Array Oper}{o:Oper}{r:List Oper}{K:St->Prop}:tQ P ops (o::r) K σ=e7 P ops (vc o) o (tQ P ops r K) σ:=by simp only[tQ]
def afe{ops:Array Oper}{i:Nat}{o:Oper}(h:ops[i]?=some o):(Cy ops).contains i=vc o:=by
 have hi:i<ops.size:=(pB.1 h).1;rw[mR,qh];simp only[Cy,z8,mi,hi,true_and,h]
def L4{ops:Array Oper}{K:St->Prop}:∀ (l:List Oper) (i:Nat) (σ:St),ops.toList.drop i=l->tQ P ops l K σ->sQ P ops (Cy ops) i l K σ
 |[],i,σ,_,h=>h
 |o::r,i,σ,hl,h=>by
  have hi:ops[i]?=some o:=by
   have:(ops.toList.drop i)[0]?=some o:=by rw[hl];rfl
   simpa using this
  have hr:ops.toList.drop (i+1)=r:=by
   have:=congrArg List.tail hl;simpa [G4] using this
  rw[HZ,afe hi];rw[L3]at h;exact D6 (λs hs=>L4 r (i+1) s hr hs) h
def H2(ops:Array Oper):Bool:=H0 ops (Cy ops)
def aff{id:Nat}{ops:Array Oper}{y:Code}(hm:P.follows .mixedOrders=true)(hd:gH N ops=true)(ht:H2 ops=true)(h:∀ K:St->Prop,(∀ s,W P N n0 y Q s->K s)->tQ P ops ops.toList K σ):
  W P N n0 (.seq (.region id ops true) y) Q σ :=
 Sm (Cy ops) hm hd ht λK hK=>L4 ops.toList 0 σ rfl (h K hK)
def afg{id:Nat}{ops:Array Oper}(hm:P.follows .mixedOrders=true)(hd:gH N ops=true)(ht:H2 ops=true)(h:∀ K:St->Prop,(∀ s,Q .normal s->K s)->tQ P ops ops.toList K σ):
  W P N n0 (.region id ops true) Q σ :=
 Cw (Cy ops) hm hd ht λK hK=>L4 ops.toList 0 σ rfl (h K hK)
def xU:List Oper->Bool
 |[]=>false
 |o::r=>vc o||xU r
def Cz(ops:Array Oper):List Nat:=(aZ ops.size).filter λi=>match ops[i]? with|some o=>vc o&&xU (ops.toList.drop (i+1))|none=>false
def tR(P:Program)(ops:Array Oper):List Oper->(St->Prop)->St->Prop
 |[],K,σ=>K σ
 |o::r,K,σ=>e7 P ops (vc o&&xU r) o (tR P ops r K) σ
def Sv{ops:Array Oper}{K:St->Prop}:tR P ops [] K σ=K σ:=by simp only[tR]
def L5{ops:Array Oper}{o:Oper}{r:List Oper}{K:St->Prop}:tR P ops (o::r) K σ=e7 P ops (vc o&&xU r) o (tR P ops r K) σ:=by simp only[tR]
def afh{ops:Array Oper}{i:Nat}{o:Oper}{r:List Oper}(h:ops[i]?=some o)(hr:ops.toList.drop (i+1)=r):(Cz ops).contains i=(vc o&&xU r):=by
 have hi:i<ops.size:=(pB.1 h).1;rw[mR,qh];simp only[Cz,z8,mi,hi,true_and,h,hr]
def L6{ops:Array Oper}{K:St->Prop}:∀ (l:List Oper) (i:Nat) (σ:St),ops.toList.drop i=l->tR P ops l K σ->sQ P ops (Cz ops) i l K σ
 |[],i,σ,_,h=>h
 |o::r,i,σ,hl,h=>by
  have hi:ops[i]?=some o:=by
   have:(ops.toList.drop i)[0]?=some o:=by rw[hl];rfl
   simpa using this
  have hr:ops.toList.drop (i+1)=r:=by
   have:=congrArg List.tail hl;simpa [G4] using this
  rw[HZ,afh hi hr];rw[L5]at h;exact D6 (λs hs=>L6 r (i+1) s hr hs) h
def H3(ops:Array Oper):Bool:=H0 ops (Cz ops)
def afi{id:Nat}{ops:Array Oper}{y:Code}(hm:P.follows .mixedOrders=true)(hd:gH N ops=true)(ht:H3 ops=true)(h:∀ K:St->Prop,(∀ s,W P N n0 y Q s->K s)->tR P ops ops.toList K σ):
  W P N n0 (.seq (.region id ops true) y) Q σ :=
 Sm (Cz ops) hm hd ht λK hK=>L6 ops.toList 0 σ rfl (h K hK)
def afj{id:Nat}{ops:Array Oper}(hm:P.follows .mixedOrders=true)(hd:gH N ops=true)(ht:H3 ops=true)(h:∀ K:St->Prop,(∀ s,Q .normal s->K s)->tR P ops ops.toList K σ):
  W P N n0 (.region id ops true) Q σ :=
 Cw (Cz ops) hm hd ht λK hK=>L6 ops.toList 0 σ rfl (h K hK)
def an.empty{f:FuncId}{sz:Nat}{pre post:List AV}{aa bI:List Ob}{res:AV}(h:∀ a cap,an P f (pre++.lit (.slice a 0 cap)::post) aa res bI):an P f (pre++.tree sz []::post) aa res bI:=by
 refine⟨(h none 0).1,λγ bg hs=>?_⟩;have kF:=hs.au pre.length;have he:(pre++.tree sz []::post).getD pre.length .undef=.tree sz []:=G9;rw[show(⟨λk=>(pre++AV.tree sz []::post).getD k .undef,aa⟩:St).env pre.length=.tree sz [] from he]at kF;obtain⟨a,cap,bu⟩:∃a cap,γ.tmps.getD pre.length Go.undef=.slice a 0 cap:=by
  generalize γ.tmps.getD pre.length Go.undef=cv at kF;have:=kF.Aq;cases this with
  |nil _ cap a=>exact⟨a,cap,rfl⟩
  |tree _ _ b o cap f=>exact⟨_,cap,rfl⟩
 refine(h a cap).2 γ (by simpa using bg) ⟨λk=>?_,hs.fF,hs.inj,hs.nz,hs.jm,hs.gl⟩;by_cases hk:k=pre.length
 ·subst hk;show aA aa γ.w γ.Z γ.blk ((pre++.lit (.slice a 0 cap)::post).getD pre.length .undef) _;rw[show(pre++AV.lit (.slice a 0 cap)::post).getD pre.length .undef=.lit (.slice a 0 cap) by simp,bu];exact .lit _
 ·have:=hs.au k;show aA aa γ.w γ.Z γ.blk ((pre++.lit (.slice a 0 cap)::post).getD k .undef) _;have e:(pre++AV.lit (.slice a 0 cap)::post).getD k .undef=(pre++AV.tree sz []::post).getD k .undef:=by
   simp only[List.getD_eq_getElem?_getD];congr 1;rcases Nat.lt_or_ge k pre.length with h'|h'
   ·rw[dg h',dg h']
   ·rw[fO h',fO h'];obtain⟨j,hj⟩:∃j,k-pre.length=j+1:=⟨k-pre.length-1,G3⟩;rw[hj];simp
  rw[e];exact this
def ay.H4(d sz:Nat){a:Option Addr}{cap:Nat}(h:σ.env d=.lit (.slice a 0 cap)):ay n0 σ ⟨jT σ.env d (.tree sz []),σ.aa⟩:=by
 intro os γ0 γ _ hs hf;refine⟨γ,rfl,rfl,⟨λk=>?_,hs.fF,hs.inj,hs.nz,hs.jm,hs.gl⟩,hf⟩;show aA σ.aa γ.w γ.Z γ.blk (jT σ.env d (.tree sz []) k) _;by_cases hk:k=d
 ·subst hk;have:=hs.au k;rw[h]at this;rw[aem,this.dm];exact .cp _ _ (.nil sz cap a)
 ·rw[jT,if_neg hk];exact hs.au k
end Go.Am
namespace Go.Am
def H5(k:IntKind)(n:Int):fc (.int k n)=.lit (.int k n):=by first|rfl|(cases b<;>rfl)|(simp only[fc];done)|(unfold gW;split<;>simp_all)
def H6(b:Bool):fc (.bool b)=.lit (.bool b):=by first|rfl|(cases b<;>rfl)|(simp only[fc];done)|(unfold gW;split<;>simp_all)
def H7(a:Option Addr)(n c:Nat):fc (.slice a n c)=.lit (.slice a n c):=by first|rfl|(cases b<;>rfl)|(simp only[fc];done)|(unfold gW;split<;>simp_all)
def H8(s:ByteArray):fc (.string s)=.lit (.string s):=by first|rfl|(cases b<;>rfl)|(simp only[fc];done)|(unfold gW;split<;>simp_all)
def H9(s:Array Value):fc (.tuple s)=.lit (.tuple s):=by first|rfl|(cases b<;>rfl)|(simp only[fc];done)|(unfold gW;split<;>simp_all)
def Sw(ρ:Nat->Nat)(v:Value):br ρ (.lit v)=.lit v:=by first|rfl|(cases b<;>rfl)|(simp only[fc];done)|(unfold gW;split<;>simp_all)
def Sx(ρ:Nat->Nat)(s:Nat)(r:List (List AV)):br ρ (.tree s r)=.tree s r:=by first|rfl|(cases b<;>rfl)|(simp only[fc];done)|(unfold gW;split<;>simp_all)
def Sy(ρ:Nat->Nat)(r:List AV):br ρ (.bm r)=.bm r:=by first|rfl|(cases b<;>rfl)|(simp only[fc];done)|(unfold gW;split<;>simp_all)
def Sz(ρ:Nat->Nat):br ρ .undef=.undef:=by first|rfl|(cases b<;>rfl)|(simp only[fc];done)|(unfold gW;split<;>simp_all)
def SA(v:Value):cellsOf (.lit v)=[.lit v]:=by first|rfl|(cases b<;>rfl)|(simp only[fc];done)|(unfold gW;split<;>simp_all)
def SD(s:Nat)(r:List (List AV)):cellsOf (.tree s r)=[.tree s r]:=by first|rfl|(cases b<;>rfl)|(simp only[fc];done)|(unfold gW;split<;>simp_all)
def SE(r:List AV):cellsOf (.bm r)=[.bm r]:=by first|rfl|(cases b<;>rfl)|(simp only[fc];done)|(unfold gW;split<;>simp_all)
def SF(a b c d:Nat):cellsOf (.ref a b c d)=[.ref a b c d]:=by first|rfl|(cases b<;>rfl)|(simp only[fc];done)|(unfold gW;split<;>simp_all)
def SG(a b c:Nat):cellsOf (.ptr a b c)=[.ptr a b c]:=by first|rfl|(cases b<;>rfl)|(simp only[fc];done)|(unfold gW;split<;>simp_all)
def SH(id:Nat):cellsOf (.g6 id)=[.g6 id]:=rfl
def SI(t:TypeId)(v:AV):cellsOf (.ja t v)=[.ja t v]:=rfl
def SJ(f:FuncId)(l:List AV):cellsOf (.fn f l)=[.fn f l]:=by first|rfl|(cases b<;>rfl)|(simp only[fc];done)|(unfold gW;split<;>simp_all)
def SK(t:Bool)(s:Array Value)(b:AV):gW t (.lit (.tuple s)) b=if t=true then .lit (.tuple s) else b:=by first|rfl|(cases b<;>rfl)|(simp only[fc];done)|(unfold gW;split<;>simp_all)
def SL(t:Bool)(s:Array Value)(b:AV):gW t b (.lit (.tuple s))=if t=true then b else .lit (.tuple s):=by first|rfl|(cases b<;>rfl)|(simp only[fc];done)|(unfold gW;split<;>simp_all)
def SM(t:Bool)(s u:List AV):gW t (.agg s) (.agg u)=if t=true then .agg s else .agg u:=by first|rfl|(cases b<;>rfl)|(simp only[fc];done)|(unfold gW;split<;>simp_all)
def SN(l:List AV):cJ (.agg l)=false:=by first|rfl|(cases b<;>rfl)|(simp only[fc];done)|(unfold gW;split<;>simp_all)
def SO(l:List AV):cJ (.bH l)=false:=by first|rfl|(cases b<;>rfl)|(simp only[fc];done)|(unfold gW;split<;>simp_all)
def SP  : cJ .undef=false:=by first|rfl|(cases b<;>rfl)|(simp only[fc];done)|(unfold gW;split<;>simp_all)
def SQ(k:IntKind)(n:Int):Value.oneCell' (.int k n)=true:=by first|rfl|(cases b<;>rfl)|(simp only[fc];done)|(unfold gW;split<;>simp_all)
def SR(b:Bool):Value.oneCell' (.bool b)=true:=by first|rfl|(cases b<;>rfl)|(simp only[fc];done)|(unfold gW;split<;>simp_all)
def SS(a:Option Addr)(n c:Nat):Value.oneCell' (.slice a n c)=true:=by first|rfl|(cases b<;>rfl)|(simp only[fc];done)|(unfold gW;split<;>simp_all)
def SU(s:ByteArray):Value.oneCell' (.string s)=true:=by first|rfl|(cases b<;>rfl)|(simp only[fc];done)|(unfold gW;split<;>simp_all)
def SV(a:Option Addr):Value.oneCell' (.pointer a)=true:=by first|rfl|(cases b<;>rfl)|(simp only[fc];done)|(unfold gW;split<;>simp_all)
def SW(a:Option Nat):Value.oneCell' (.map a)=true:=by first|rfl|(cases b<;>rfl)|(simp only[fc];done)|(unfold gW;split<;>simp_all)
def Pc:=aau @B3.eq_1 @B3.eq_2 @yR.eq_1 @yR.eq_2 @B4.eq_1 @B4.eq_2 @rz.eq_1 (aau @rz.eq_2 @rz.eq_3 @KI.eq_1 @KK.eq_1 @iC.eq_1 @iC.eq_2 @iC.eq_3 (aau @iC.eq_4 @iC.eq_5 @iC.eq_6 @iC.eq_7 @iC.eq_8 @iC.eq_9 @iC.eq_10 (aau @iC.eq_11 @iC.eq_12 @iC.eq_13 @nx.eq_1 @e7.eq_1 @rz.eq_4 @Sf (aam @Sg @Sh @Si))))
def Sc:=aau @ev.eq_1 @ev.eq_2 @ev.eq_3 @ev.eq_4 @fc.eq_1 @St.put.eq_1 @St.put.eq_2 (aau @v7.eq_1 @v7.eq_2 @v8.eq_1 @v8.eq_2 @gW.eq_1 @kc.eq_1 @kc.eq_2 (aau @fi.eq_1 @fi.eq_2 @br.eq_1 @br.eq_2 @br.eq_3 @br.eq_4 @br.eq_5 (aau @br.eq_6 @qt.eq_1 @qt.eq_2 @bA.eq_1 @rowOf.eq_1 @pD.eq_1 @oR.eq_1 (aau @oR.eq_2 @pF.eq_1 @pF.eq_2 @cellsOf.eq_1 @setCells.eq_1 @setCells.eq_2 @nu.eq_1 (aau @nu.eq_2 @nw.eq_1 @nw.eq_2 @cJ.eq_1 @cJ.eq_2 @cJ.eq_3 @cJ.eq_4 (aau @cJ.eq_5 @cJ.eq_6 @Ty.isAgg.eq_1 @Value.oneCell'.eq_1 @Value.oneCell'.eq_2 @vc.eq_1 @xU.eq_1 (aau @xU.eq_2 @ao.eq_1 @cK.eq_1 @a9.eq_1 @aQ.eq_1 @iH.eq_1 @aV.eq_1 (aau @aK.eq_1 @qm.eq_1 @qm.eq_2 @HZ @Sl @L3 @Su (aau @L5 @Sv @eX @jE @H5 @H6 @H7 (aau @H8 @H9 @Sw @Sx @Sy @Sz @SA (aau @SD @SE @SF @SG @SJ @SK @SL (aau @SM @SN @SO @SP @SQ @SR @SS (aau @SU @SV @SW @cJ.eq_7 @SI @Qi @QJ (aau @QK @KJ.eq_1 @ql.eq_1 @ql.eq_2 @br.eq_7 @cJ.eq_8 @SH (aau @QD @QE @QF @QI @QG @QH @P9 (aan @mU.eq_1 @keyOf.eq_1 @keyOf.eq_2 @lg.eq_1))))))))))))))))
def Lc:=aau @ev.eq_1 @ev.eq_2 @ev.eq_3 @ev.eq_4 @fc.eq_1 @St.put.eq_1 @St.put.eq_2 (aao @H5 @H6 @H7 @H8 @H9)
def dE{P:Program}{N n0:Nat}(id:Nat){ops:Array Oper}{d:Bool}{y:Code}{Q:Exit->St->Prop}{σ:St}(h:W P N n0 (.seq (.region id ops d) y) Q σ):W P N n0 (.seq (.region id ops d) y) Q σ:=h
def dF{P:Program}{N n0:Nat}(id:Nat){ops:Array Oper}{d:Bool}{Q:Exit->St->Prop}{σ:St}(h:W P N n0 (.region id ops d) Q σ):W P N n0 (.region id ops d) Q σ:=h
end Go.Am
namespace Go.Am
variable {P:Program} {N n0:Nat} {σ:St}
def zb:Ob->Bool
 |.gone=>false
 |.var cs=>jl cs
 |.arr _ rows=>rows.all jl
 |.mp _ _=>false
def SX{ρ:Nat->Nat}{o:Ob}(h:zb o=true):bU ρ o=o:=by
 cases o with
 |gone=>simp[zb]at h
 |var cs =>
  have:=Ca ρ cs h;rw[xH]at this;simp[bU,this]
 |arr sz rows=>exact D8 (by simpa [zb,gV] using h)
 |mp ag L=>simp[zb]at h
def SY(hd:Nat)(c a:AV):Prop:=(a=c/\gQ c=true)\/(c=.ptr 0 0 0/\a=.ptr hd 0 0)
def EJ(P:Program)(hd:Nat)(g:FuncId)(args:List AV)(dst:Option Tmp)(K:St->Prop)(σ:St):Prop :=
 ∃ dU D res D',an P g dU [D] res [D']/\zb D=true/\zb D'=true/\σ.aa[hd]?=some D/\gQ res=true/\eY (SY hd) dU args/\K ((⟨σ.env,σ.aa.set hd D'⟩:St).put dst res)
def afk{hd:Nat}{g:FuncId}{args:List AV}{dst:Option Tmp}{K:St->Prop}(h:EJ P hd g args dst K σ):sI P g args dst K σ:=by
 obtain⟨dU,D,res,D',h1,h2,h3,h4,h5,h6,h7⟩:=h;obtain⟨h8,h9⟩:=h6.spec;have hρ:bA σ.aa.length [hd] 0=hd:=by simp[bA]
 refine⟨[hd],false,dU,[D],res,[D'],h1,⟨G9,rfl,λj o hj=>?_,h8,λj c d hc uX=>?_,G9⟩,?_⟩
 ·cases j with
  |zero=>simp at hj;subst hj;simp[SX h2,h4]
  |succ j=>simp at hj
 ·rcases h9 j c d hc uX with⟨rfl,hn⟩|⟨rfl,rfl⟩
  ·exact .pure hn
  ·exact .eq (by simp[br,hρ])
 ·have e:fi σ.aa [hd] ([D'].map (bU (bA σ.aa.length [hd])))=σ.aa.set hd D':=by simp[fi,SX h3]
  show K (({ σ with aa:=fi σ.aa [hd] ([D'].map (bU (bA σ.aa.length [hd]))) }:St).put dst (br (bA σ.aa.length [hd]) res));rw[e,An _ _ h5];exact h7
def zd(hd:Nat)(P:Program)(o:Oper)(σ:St)(K:St->Prop):Prop :=
 match o.op with
 |.call { callee:=.value f,args,.. } =>
  match ev σ f with
  |.fn g a6=>EJ P hd g (args.toList.map (ev σ)++a6) o.dst K σ
  |_=>False
 |_=>False
def afm{hd:Nat}{o:Oper}{K:St->Prop}(h:zd hd P o σ K):aW P o σ K:=by
 unfold zd at h;unfold aW;split at h
 ·rename_i f args cQ cU;simp only[cU];split at h
  ·rename_i g a6 he;simp only[he];exact afk h
  ·exact h.elim
 ·exact h.elim
def pV(hd:Nat):AV->Bool
 |.ptr id _ _=>id != hd
 |.ref id _ _ _=>id != hd
 |.g6 id=>id != hd
 |_=>true
def tS(hd:Nat)(σ:St):List Operand->Bool
 |[]=>true
 |x::l=>pV hd (ev σ x)&&tS hd σ l
def fZ(hd:Nat)(q:Bool)(o:Oper)(σ:St):Bool:=q||cls o.op==0||decide (3<=cls o.op)||tS hd σ o.op.operands.toList
def SZ{hd:Nat}:∀ {l:List Operand},tS hd σ l=true->∀ x∈l,pP (ev σ x)≠some hd
 |[],_,x,hx=>by simp at hx
 |y::l,h,x,hx=>by
  simp only[tS,bk]at h;rcases cu.1 hx with rfl|hx
  ·intro e;have h1:=h.1;cases hv:ev σ x<;>rw[hv]at e h1<;>simp[pP,pV]at e h1
   ·exact h1 e
   ·exact h1 e
   ·exact h1 e
  ·exact SZ h.2 x hx
def L7{hd:Nat}{σ2:St}:∀ {l:List Operand},(∀ x∈l,ev σ2 x=ev σ x)->tS hd σ2 l=tS hd σ l
 |[],_=>rfl
 |y::l,h=>by
  simp only[tS];rw[h y G9,L7 λx hx=>h x (by simp[hx])]
def lK(P:Program)(ops:Array Oper)(hd:Nat)(q dc:Bool)(o:Oper)(K:St->Prop)(σ:St):Prop :=
 match dc with
 |true=>o.guard=none/\zd hd P o σ K
 |false=>fZ hd q o σ=true/\e7 P ops q o K σ
def dz(q dc:Bool)(o:Oper):Nat:=if dc then 6 else fV q o
def EK(hd c:Nat)(a b:List Ob):Prop:=if c=6 then ∀ id,id≠hd->b[id]?=a[id]? else lG c a b
def afn{N:Nat}{os:List Ob}{γ0:Cx}{ops:Array Oper}{hh:Nat}(hd:∀ o∈ops.toList,∀ d,o.dst=some d->d<N){q dc:Bool}{i:Nat}{o:Oper}(hi:ops[i]?=some o){σ:St}{K:St->Prop}(h:lK P ops hh q dc o K σ){a:Act}{w:World}(aw:gP N os γ0 σ a w){Q:Exit->Act->World->Prop}{next:Act->World->Prop}(hn:∀ σ' a' w',K σ'->gP N os γ0 σ' a' w'->next a' w'):wpOp P ops Q i next a w:=by
 cases dc with
 |false=>exact KQ hd hi h.2 aw hn
 |true =>
  have bJ:o∈ops.toList:=gY (by simpa using hi);unfold wpOp;simp only[hi];have hw:Region.wanted o (yielded ops a.tmps)=true:=by simp[Region.wanted,h.1]
  rw[if_pos hw];left;exact xD (afm h.2) aw (hd o bJ) hn
def H'{ops:Array Oper}{hh:Nat}{q dc:Bool}{o:Oper}{σ:St}{K:St->Prop}(hW:lK P ops hh q dc o K σ):
  ∃ v os,EK hh (dz q dc o) σ.aa os/\K ((⟨σ.env,os⟩:St).put o.dst v)/\∀ (e2:Nat->AV) (K2:St->Prop),(∀ t∈o.looksAt ops,e2 t=σ.env t)->K2 ((⟨e2,os⟩:St).put o.dst v)->lK P ops hh q dc o K2 ⟨e2,σ.aa⟩:=by
 cases dc with
 |false =>
  obtain⟨hc,hW⟩:=hW;obtain⟨v,os,h1,h2,h3⟩:=B6 hW;refine⟨v,os,?_,h2,λe2 K2 hl hK=>⟨?_,h3 e2 K2 hl hK⟩⟩
  ·unfold EK dz;simp only[ju,if_false];rw[if_neg]
   ·exact h1
   ·unfold fV;split
    ·omega
    ·unfold cls;split<;>omega
  ·unfold fZ at hc ⊢;rw[L7 (σ:=σ) (tD hl)];exact hc
 |true =>
  obtain⟨hg,hW⟩:=hW;unfold zd at hW;split at hW
  ·rename_i f args cQ cU;split at hW
   ·rename_i g a6 he;obtain⟨dU,D,res,D',h1,h2,h3,h4,h5,h6,h7⟩:=hW;refine⟨res,σ.aa.set hh D',?_,h7,λe2 K2 hl hK=>⟨hg,?_⟩⟩
    ·unfold EK dz;simp only[if_true];intro id cT;rw[List.getElem?_set,if_neg (Ne.symm cT)]
    ·unfold zd;simp only[cU];have hx:=tD (os:=σ.aa) hl;have e1:ev ⟨e2,σ.aa⟩ f=.fn g a6:=by rw[<- he];exact hx f (by simp[cU,Op.operands,Call.operands])
     have e3:args.toList.map (ev ⟨e2,σ.aa⟩)=args.toList.map (ev σ):=oM λy hy=>hx y (by simp only[cU,Op.operands,Call.operands,BR,cz];exact .inr hy);simp only[e1,e3];exact⟨dU,D,res,D',h1,h2,h3,h4,h5,h6,hK⟩
   ·exact hW.elim
  ·exact hW.elim
def afo{o:Oper}{σ:St}{K:St->Prop}(hc:cls o.op<=2)(hW:aW P o σ K):
  ∃ v,K (σ.put o.dst v)/\∀ (σ2:St) (K2:St->Prop),(∀ x∈o.op.operands.toList,ev σ2 x=ev σ x)->(∀ x∈o.op.operands.toList,∀ id,pP (ev σ x)=some id->iQ (cls o.op) σ.aa[id]? σ2.aa[id]?)->K2 (σ2.put o.dst v)->aW P o σ2 K2:=by
 unfold aW at hW ⊢;split at hW
 ·rename_i f args cQ cU;rw[cU]at hc;simp[cls]at hc
 ·rename_i r m args cQ cU;rw[cU]at hc;simp[cls]at hc
 ·rename_i ew;obtain⟨v,h2,h3⟩:=Rv hc hW;refine⟨v,h2,λσ2 K2 hx ho hK=>?_⟩;exact h3 σ2 K2 hx (ho) hK
def S1{q:Bool}{o:Oper}{σ:St}{K:St->Prop}(hc:fV q o<=2)(hW:mT q P o σ K):
  ∃ v,K (σ.put o.dst v)/\∀ (σ2:St) (K2:St->Prop),(∀ x∈o.op.operands.toList,ev σ2 x=ev σ x)->(∀ x∈o.op.operands.toList,∀ id,pP (ev σ x)=some id->iQ (fV q o) σ.aa[id]? σ2.aa[id]?)->K2 (σ2.put o.dst v)->mT q P o σ2 K2:=by
 cases q with
 |false=>exact afo hc hW
 |true =>
  unfold mT at hW ⊢;simp only at hW ⊢;split at hW
  ·rename_i f args cQ cU;simp only[cU];split at hW
   ·rename_i g a6 he;obtain⟨res,h1,h2,h3,h4⟩:=hW;refine⟨res,h4,λσ2 K2 hx _ hK=>?_⟩;have e1:ev σ2 f=.fn g a6:=by rw[<- he];exact hx f (by simp[Op.operands,Call.operands])
    have e3:args.toList.map (ev σ2)=args.toList.map (ev σ):=oM λy hy=>hx y (by simp only[Op.operands,Call.operands,BR,cz];exact .inr hy);simp only[e1,e3];exact⟨res,h1,h2,h3,hK⟩
   ·exact hW.elim
  ·rename_i t a cU;obtain⟨x,h1,h2⟩:=KP hW;refine⟨x,h1,λσ2 K2 hx _ hK=>?_⟩;rw[hx a (by simp[cU,Op.operands])];exact h2 _ K2 hK
  ·exact hW.elim
def S2{ops:Array Oper}{q:Bool}{o:Oper}{σ:St}{K:St->Prop}(hc:fV q o<=2)(hW:e7 P ops q o K σ):
  ∃ v,K (σ.put o.dst v)/\∀ (σ2:St) (K2:St->Prop),(∀ t∈o.looksAt ops,σ2.env t=σ.env t)->(∀ x∈o.op.operands.toList,∀ id,pP (ev σ x)=some id->iQ (fV q o) σ.aa[id]? σ2.aa[id]?)->K2 (σ2.put o.dst v)->e7 P ops q o K2 σ2:=by
 unfold e7 at hW ⊢;cases hg:o.guard with
 |none =>
  simp only[hg]at hW;obtain⟨v,h2,h3⟩:=S1 hc hW;exact⟨v,h2,λσ2 K2 hl ho hK=>h3 σ2 K2 (tD (e2:=σ2.env) (os:=σ2.aa) hl) ho hK⟩
 |some jw =>
  obtain⟨j,want⟩:=jw;simp only[hg]at hW;cases eZ:(ops[j]?).bind (·.dst) with
  |none=>simp[eZ]at hW
  |some d =>
   simp only[eZ]at hW;split at hW
   ·rename_i b he;by_cases ik:b=want
    ·obtain⟨v,h2,h3⟩:=S1 hc (hW.1 ik);refine⟨v,h2,λσ2 K2 hl ho hK=>?_⟩;have:σ2.env d=.lit (.bool b):=by rw[hl d (xE hg eZ)];exact he
     simp only[eZ,this];exact⟨λ_=>h3 σ2 K2 (tD (e2:=σ2.env) (os:=σ2.aa) hl) ho hK,λhn=>absurd ik hn⟩
    ·refine⟨.lit (.tuple #[]),hW.2 ik,λσ2 K2 hl ho hK=>?_⟩;have:σ2.env d=.lit (.bool b):=by rw[hl d (xE hg eZ)];exact he
     simp only[eZ,this];exact⟨λhn=>absurd hn ik,λ_=>hK⟩
   ·rename_i vs he;refine⟨.lit (.tuple #[]),hW.2,λσ2 K2 hl ho hK=>?_⟩;have:σ2.env d=.lit (.tuple vs):=by rw[hl d (xE hg eZ)];exact he
    simp only[eZ,this];exact⟨hW.1,hK⟩
   ·exact hW.elim
def S3{ops:Array Oper}{hh:Nat}{q dc:Bool}{o:Oper}{σ:St}{K:St->Prop}(hc:dz q dc o<=2)(hW:lK P ops hh q dc o K σ):
  ∃ v,K (σ.put o.dst v)/\∀ (σ2:St) (K2:St->Prop),(∀ t∈o.looksAt ops,σ2.env t=σ.env t)->(∀ (id:Nat),id≠hh->iQ (dz q dc o) σ.aa[id]? σ2.aa[id]?)->K2 (σ2.put o.dst v)->lK P ops hh q dc o K2 σ2:=by
 cases dc with
 |true=>simp[dz]at hc
 |false =>
  obtain⟨hk,hW⟩:=hW;have iR:fV q o<=2:=by simpa [dz] using hc
  obtain⟨v,h1,h2⟩:=S2 iR hW;refine⟨v,h1,λσ2 K2 hl ho hK=>⟨?_,h2 σ2 K2 hl (λx hx id hp=>?_) hK⟩⟩
  ·unfold fZ at hk ⊢;rw[L7 (σ:=σ) (tD (e2:=σ2.env) (os:=σ2.aa) hl)];exact hk
  ·have cy:∀ id,id≠hh->iQ (fV q o) σ.aa[id]? σ2.aa[id]?:=by simpa [dz] using ho
   by_cases h0:fV q o=0
   ·rw[h0];simp[iQ]
   ·refine cy id λe=>?_;subst e;unfold fV at h0 iR;split at h0
    ·omega
    ·rename_i hq;simp only[hq]at iR;have CE:q=false:=by simpa using hq
     subst CE;unfold fZ at hk;have sP:cls o.op<=2:=by simpa using iR
     have h3:decide (3<=cls o.op)=false:=decide_eq_false G3;have h4:(cls o.op==0)=false:=by simpa using h0
     rw[h3,h4]at hk;simp only[lF]at hk;exact SZ hk x hx hp
def AI(ci ck:Nat):Bool:=Aj ci ck||(decide (ci<=2)&&ck==6)
def afp{hh ci ck:Nat}(h:(ci==0||(ci==1&&decide (ck<=4))||(ci==2&&decide (ck<=3))||(decide (ci<=2)&&ck==6))=true){a b:List Ob}(he:EK hh ck a b)(id:Nat)(cT:id≠hh):iQ ci a[id]? b[id]?:=by
 unfold EK at he;split at he
 ·rename_i h6;subst h6;rw[he id cT];unfold iQ;split
  ·trivial
  ·split
   ·intro o ho;exact⟨o,ho,yW o⟩
   ·intro o ho;exact ho
 ·rename_i h6;refine KS ?_ he id;have:(ck==6)=false:=by simpa using h6
  rw[this]at h;simpa using h
def afq{ops:Array Oper}{hh:Nat}{qi qk di dk:Bool}{oi ok:Oper}(ha:oi.apart ops ok=true)(hi:dz qi di oi<=2)(hc:(dz qi di oi==0||(dz qi di oi==1&&decide (dz qk dk ok<=4))||(dz qi di oi==2&&decide (dz qk dk ok<=3))||(decide (dz qi di oi<=2)&&dz qk dk ok==6))=true){σ:St}{K:St->Prop}(h:lK P ops hh qi di oi (lK P ops hh qk dk ok K) σ):lK P ops hh qk dk ok (lK P ops hh qi di oi K) σ:=by
 obtain⟨a1,a2,a3⟩:=Oper.apart_spec ha;obtain⟨v,h1,run⟩:=S3 hi h;obtain⟨vk,os,uU,h2,yX⟩:=H' h1;rw[B8]at uU yX;refine yX σ.env _ (λt ht=>(tE λd hd e=>a1 d hd (e▸ht)).symm) ?_;refine run _ _ (λt ht=>?_) (λid cT=>?_) ?_
 ·rw[tE λd hd e=>a3 d hd (e▸ht)]
 ·rw[B8];exact afp hc uU id cT
 ·rw[B9]at h2;rw[B7 (λd hd e=>a2 d e hd)];exact h2
def afr{ops:Array Oper}{hh:Nat}{qi qk di dk:Bool}{oi ok:Oper}(ha:oi.apart ops ok=true)(hk:dz qk dk ok=0){σ:St}{K:St->Prop}(h:lK P ops hh qi di oi (lK P ops hh qk dk ok K) σ):lK P ops hh qk dk ok (lK P ops hh qi di oi K) σ:=by
 obtain⟨a1,a2,a3⟩:=Oper.apart_spec ha;obtain⟨vi,os,uU,h1,run⟩:=H' h;obtain⟨vk,h2,D5⟩:=S3 G3 h1;refine D5 σ _ (λt ht=>(tE (σ:=⟨σ.env,os⟩) λd hd e=>a1 d hd (e▸ht)).symm) (λid _=>by rw[hk];simp[iQ]) ?_;rw[KR];refine run _ _ (λt ht=>tE λd hd e=>a3 d hd (e▸ht)) ?_;rw[B9,B7 (λd hd e=>a2 d e hd)];exact h2
def afs{ops:Array Oper}{hh:Nat}{qi qk di dk:Bool}{oi ok:Oper}(ha:oi.apart ops ok=true)(hc:AI (dz qi di oi) (dz qk dk ok)=true){σ:St}{K:St->Prop}(h:lK P ops hh qi di oi (lK P ops hh qk dk ok K) σ):lK P ops hh qk dk ok (lK P ops hh qi di oi K) σ:=by
 by_cases hk:dz qk dk ok=0
 ·exact afr ha hk h
 ·have iR:(dz qi di oi==0||(dz qi di oi==1&&decide (dz qk dk ok<=4))||(dz qi di oi==2&&decide (dz qk dk ok<=3))||(decide (dz qi di oi<=2)&&dz qk dk ok==6))=true:=by
   simp only[AI,Aj,kB,bk,beq_iff_eq,decide_eq_true_eq]at hc ⊢;rcases hc with(((h|h)|h)|h)|h
   ·exact .inl (.inl (.inl h))
   ·exact absurd h hk
   ·exact .inl (.inl (.inr h))
   ·exact .inl (.inr h)
   ·exact .inr h
  refine afq ha ?_ iR h;simp only[kB,bk,beq_iff_eq,decide_eq_true_eq]at iR;omega
def gK(P:Program)(ops:Array Oper)(hh:Nat)(qs ds:List Nat)(i:Nat)(K:St->Prop)(σ:St):Prop :=
 match ops[i]? with
 |none=>K σ
 |some o=>lK P ops hh (qs.contains i) (ds.contains i) o K σ
def wu(P:Program)(ops:Array Oper)(hh:Nat)(qs ds:List Nat)(K:St->Prop):Nat->Array Bool->St->Prop
 |0,aN,σ=>Region.ready .any ops aN=[]/\K σ
 |n+1,aN,σ=>(Region.ready .any ops aN=[]->K σ)/\∀ i∈Region.ready .any ops aN,gK P ops hh qs ds i (wu P ops hh qs ds K n (aN.setIfInBounds i true)) σ
def aft{ops:Array Oper}{hh:Nat}{q dc:Bool}{o:Oper}{σ:St}{K K2:St->Prop}(hk:∀ s,K s->K2 s)(h:lK P ops hh q dc o K σ):lK P ops hh q dc o K2 σ:=by
 obtain⟨v,os,_,h2,run⟩:=H' h;exact run σ.env K2 (λ_ _=>rfl) (hk _ h2)
def afu{ops:Array Oper}{hh:Nat}{q dc:Bool}{o:Oper}{σ:St}{K:St->Prop}(h:lK P ops hh q dc o K σ):∃s,K s:=by
 obtain⟨v,os,_,h2,run⟩:=H' h;exact⟨_,h2⟩
def ze{ops:Array Oper}{hh:Nat}{qs ds:List Nat}{i:Nat}{σ:St}{K K2:St->Prop}(hk:∀ s,K s->K2 s)(h:gK P ops hh qs ds i K σ):gK P ops hh qs ds i K2 σ:=by
 unfold gK at h ⊢;split at h
 ·exact hk _ h
 ·exact aft hk h
def afv{ops:Array Oper}{hh:Nat}{qs ds:List Nat}{i:Nat}{σ:St}{K:St->Prop}(h:gK P ops hh qs ds i K σ):∃s,K s:=by
 unfold gK at h;split at h
 ·exact⟨_,h⟩
 ·exact afu h
def L8{os:List Ob}{γ0:Cx}{ops:Array Oper}{hh:Nat}{qs ds:List Nat}(hd:∀ o∈ops.toList,∀ d,o.dst=some d->d<N){K:St->Prop}{Q:Exit->Act->World->Prop}(hQ:∀ σ' a' w',K σ'->gP N os γ0 σ' a' w'->Q .normal a' w'):∀ (n:Nat) (aN:Array Bool) (σ:St) (a:Act) (w:World),wu P ops hh qs ds K n aN σ->gP N os γ0 σ a w->wpAny P .any ops Q n aN a w
 |0,aN,σ,a,w,h,aw=>⟨h.1,hQ _ _ _ h.2 aw⟩
 |n+1,aN,σ,a,w,h,aw=>by
  refine⟨λhr=>hQ _ _ _ (h.1 hr) aw,λi hi=>?_⟩;have:=h.2 i hi;unfold gK at this;split at this
  ·rename_i hi';unfold wpOp;simp only[hi'];exact L8 hd hQ n _ _ _ _ this aw
  ·rename_i o hi';exact afn hd hi' this aw λσ' a' w' hK dG=>L8 hd hQ n _ _ _ _ hK dG
def afw{id:Nat}{ops:Array Oper}{Q:Exit->St->Prop}(hh:Nat)(qs ds:List Nat)(hm:P.follows .mixedOrders=true)(hd:gH N ops=true)(h:wu P ops hh qs ds (Q .normal) ops.size (vR ops.size false) σ):W P N n0 (.region id ops true) Q σ:=by
 intro os γ0 a w _ aw;refine wp_region_any hm ?_;exact L8 (rC hd) (K:=Q .normal) (λσ' a' w' hK dG=>⟨σ',hK,dG⟩) _ _ _ _ _ h aw.drawn
def afx{ops:Array Oper}{hh:Nat}{qs ds:List Nat}{K:St->Prop}{i:Nat}{o:Oper}(hi:ops[i]?=some o)(D:List Nat)(RB:i∈D)(hD:∀ j∈D,j=i\/∃ oj,ops[j]?=some oj/\∃ e∈oj.after,Region.binds .any e=true/\e.on∈D):∀ (fuel:Nat) (aN:Array Bool) (σ:St),(∀ j∈D,aN.getD j true=false) ->
   i∈Region.ready .any ops aN ->
   (∀ j oj,ops[j]?=some oj->aN.getD j true=false->j ∉ D->o.apart ops oj=true/\AI (dz (qs.contains i) (ds.contains i) o) (dz (qs.contains j) (ds.contains j) oj)=true) ->
   gK P ops hh qs ds i (wu P ops hh qs ds K fuel (aN.setIfInBounds i true)) σ->wu P ops hh qs ds K (fuel+1) aN σ:=by
 intro fuel
 induction fuel with
 |zero =>
  intro aN σ hu hr kH h;refine⟨λe=>by rw[e]at hr;simp at hr,λk hk=>?_⟩;by_cases gI:k=i
  ·subst gI;exact h
  ·obtain⟨s,hs⟩:=afv h;have:=ready_mono hk gI;rw[hs.1]at this;simp at this
 |succ m ih =>
  intro aN σ hu hr kH h;refine⟨λe=>by rw[e]at hr;simp at hr,λk hk=>?_⟩;by_cases gI:k=i
  ·subst gI;exact h
  ·have Ak:=mem_ready.1 hk;obtain⟨cF,ok,aw,eP⟩:=Ak;have rF:k ∉ D:=by
    intro rF;rcases hD k rF with e|⟨oj,iS,e,he,hb,xF⟩
    ·exact gI e
    ·rw[aw]at iS;simp only[Option.some.injEq]at iS;subst iS;have h1:=eP e he hb;have h2:=hu e.on xF;rw[Array.getD_eq_getD_getElem?]at h1 h2;cases hx:aN[e.on]? with
     |none=>rw[hx]at h1;simp at h1
     |some b=>rw[hx]at h1 h2;simp at h1 h2;rw[h1]at h2;simp at h2
   obtain⟨ha,hc⟩:=kH k ok aw cF rF;have h1:gK P ops hh qs ds i (gK P ops hh qs ds k (wu P ops hh qs ds K m ((aN.setIfInBounds i true).setIfInBounds k true))) σ :=
    ze (λs hs=>hs.2 k (ready_mono hk gI)) h
   have h2:gK P ops hh qs ds k (gK P ops hh qs ds i (wu P ops hh qs ds K m ((aN.setIfInBounds i true).setIfInBounds k true))) σ:=by
    unfold gK at h1 ⊢;simp only[hi,aw]at h1 ⊢;exact afs ha hc h1
   refine ze (λs hs=>?_) h2;refine ih (aN.setIfInBounds k true) s (λj hj=>?_) (ready_mono hr (Ne.symm gI)) (λj oj iS hl pK=>?_) ?_
   ·have ew:k≠j:=λe=>rF (by rw[e];exact hj);rw[getD_set_ne _ ew];exact hu j hj
   ·refine kH j oj iS ?_ pK;by_cases yY:k=j
    ·subst yY;exact cF
    ·rwa [getD_set_ne _ yY]at hl
   ·rw[Array.setIfInBounds_comm _ _ (Ne.symm gI)]at hs;exact hs
def EL(ops:Array Oper)(qs ds:List Nat)(aN:Array Bool)(i:Nat)(D:List Nat):Bool :=
 match ops[i]? with
 |none=>false
 |some o =>
  D.contains i&&D.all (λj=>j==i||match ops[j]? with|some oj=>oj.after.any (λe=>Region.binds .any e&&D.contains e.on)|none=>false) &&
  D.all (λj=>!aN.getD j true)&&o.after.all (λe=>!Region.binds .any e||aN.getD e.on false) &&
  (aZ ops.size).all λj=>D.contains j||aN.getD j true||match ops[j]? with|some oj=>o.apart ops oj&&AI (dz (qs.contains i) (ds.contains i) o) (dz (qs.contains j) (ds.contains j) oj)|none=>true
def afy{ops:Array Oper}{hh:Nat}{qs ds:List Nat}{K:St->Prop}{i:Nat}{D:List Nat}{fuel:Nat}{aN:Array Bool}(h:EL ops qs ds aN i D=true)(hs:gK P ops hh qs ds i (wu P ops hh qs ds K fuel (aN.setIfInBounds i true)) σ):wu P ops hh qs ds K (fuel+1) aN σ:=by
 unfold EL at h;cases hi:ops[i]? with
 |none=>simp[hi]at h
 |some o =>
  simp only[hi,bk,gV,qh,kB,beq_iff_eq,kz]at h;obtain⟨⟨⟨⟨h1,h2⟩,h3⟩,h4⟩,h5⟩:=h;refine afx hi D h1 (λj hj=>?_) fuel aN σ h3 ?_ ?_ hs
  ·rcases h2 j hj with h|h
   ·exact .inl h
   ·right;split at h
    ·rename_i oj iS;rw[Array.any_eq_true']at h;obtain⟨e,he,hb⟩:=h;simp only[bk,qh]at hb;exact⟨oj,iS,e,he,hb.1,hb.2⟩
    ·simp at h
  ·rw[mem_ready];refine⟨h3 i h1,o,hi,λe he hb=>?_⟩;rw[Array.all_eq_true']at h4;have:=h4 e he;simpa [hb] using this
  ·intro j oj iS hl pK;have hj:j<ops.size:=(pB.1 iS).1;rcases h5 j (mi.2 hj) with(h|h)|h
   ·exact absurd h pK
   ·rw[hl]at h;simp at h
   ·simpa [iS] using h
def PT.lv(ops:Array Oper)(qs ds:List Nat):PT->Nat->Array Bool->Bool
 |.nil,n,aN=>n==0&&(Region.ready .any ops aN).isEmpty
 |.take _ _,0,_=>false
 |.take i t,n+1,aN=>EL ops qs ds aN i (KU ops i)&&t.lv ops qs ds n (aN.setIfInBounds i true)
 |.both _ _ _ _,0,_=>false
 |.both i t j u,n+1,aN=>(Region.ready .any ops aN==[i,j])&&t.lv ops qs ds n (aN.setIfInBounds i true)&&u.lv ops qs ds n (aN.setIfInBounds j true)
 |.three _ _ _ _ _ _,0,_=>false
 |.three i t j u k v,n+1,aN=>(Region.ready .any ops aN==[i,j,k])&&t.lv ops qs ds n (aN.setIfInBounds i true)&&u.lv ops qs ds n (aN.setIfInBounds j true)&&v.lv ops qs ds n (aN.setIfInBounds k true)
def oz(P:Program)(ops:Array Oper)(hh:Nat)(qs ds:List Nat):PT->(St->Prop)->St->Prop
 |.nil,K,σ=>K σ
 |.take i t,K,σ=>gK P ops hh qs ds i (oz P ops hh qs ds t K) σ
 |.both i t j u,K,σ=>gK P ops hh qs ds i (oz P ops hh qs ds t K) σ/\gK P ops hh qs ds j (oz P ops hh qs ds u K) σ
 |.three i t j u k v,K,σ=>gK P ops hh qs ds i (oz P ops hh qs ds t K) σ/\gK P ops hh qs ds j (oz P ops hh qs ds u K) σ/\gK P ops hh qs ds k (oz P ops hh qs ds v K) σ
def AJ{ops:Array Oper}{hh:Nat}{qs ds:List Nat}{K:St->Prop}:∀ (t:PT) (n:Nat) (aN:Array Bool) (σ:St),t.lv ops qs ds n aN=true->oz P ops hh qs ds t K σ->wu P ops hh qs ds K n aN σ
 |.nil,n,aN,σ,h,hp=>by
  simp only[PT.lv,bk,beq_iff_eq,PO]at h;obtain⟨rfl,h⟩:=h;exact⟨h,hp⟩
 |.take _ _,0,_,_,h,_=>by simp[PT.lv]at h
 |.take i t,n+1,aN,σ,h,hp=>by
  simp only[PT.lv,bk]at h;exact afy h.1 (ze (λs hs=>AJ t n _ s h.2 hs) hp)
 |.both _ _ _ _,0,_,_,h,_=>by simp[PT.lv]at h
 |.both i t j u,n+1,aN,σ,h,hp=>by
  simp only[PT.lv,bk,beq_iff_eq]at h;obtain⟨⟨h1,h2⟩,h3⟩:=h;refine⟨λe=>by rw[h1]at e;simp at e,λk hk=>?_⟩;rw[h1]at hk;simp only[cu,jQ,or_false]at hk;rcases hk with rfl|rfl
  ·exact ze (λs hs=>AJ t n _ s h2 hs) hp.1
  ·exact ze (λs hs=>AJ u n _ s h3 hs) hp.2
 |.three _ _ _ _ _ _,0,_,_,h,_=>by simp[PT.lv]at h
 |.three i t j u k v,n+1,aN,σ,h,hp=>by
  simp only[PT.lv,bk,beq_iff_eq]at h;obtain⟨⟨⟨h1,h2⟩,h3⟩,h4⟩:=h;refine⟨λe=>by rw[h1]at e;simp at e,λx hk=>?_⟩;rw[h1]at hk;simp only[cu,jQ,or_false]at hk;rcases hk with rfl|rfl|rfl
  ·exact ze (λs hs=>AJ t n _ s h2 hs) hp.1
  ·exact ze (λs hs=>AJ u n _ s h3 hs) hp.2.1
  ·exact ze (λs hs=>AJ v n _ s h4 hs) hp.2.2
def Ia{id:Nat}{ops:Array Oper}{Q:Exit->St->Prop}(hh:Nat)(qs ds:List Nat)(t:PT)(hm:P.follows .mixedOrders=true)(hd:gH N ops=true)(ht:t.lv ops qs ds ops.size (vR ops.size false)=true)(h:oz P ops hh qs ds t (Q .normal) σ):W P N n0 (.region id ops true) Q σ :=
 afw hh qs ds hm hd (AJ t _ _ σ ht h)
def S4{ops:Array Oper}{hh:Nat}{qs ds:List Nat}{K:St->Prop}:oz P ops hh qs ds .nil K σ=K σ:=rfl
def S5{ops:Array Oper}{hh:Nat}{qs ds:List Nat}{i:Nat}{t:PT}{K:St->Prop}:oz P ops hh qs ds (.take i t) K σ=gK P ops hh qs ds i (oz P ops hh qs ds t K) σ:=rfl
def S6{ops:Array Oper}{hh:Nat}{qs ds:List Nat}{i j k:Nat}{t u v:PT}{K:St->Prop}:oz P ops hh qs ds (.three i t j u k v) K σ=(gK P ops hh qs ds i (oz P ops hh qs ds t K) σ/\gK P ops hh qs ds j (oz P ops hh qs ds u K) σ/\gK P ops hh qs ds k (oz P ops hh qs ds v K) σ):=rfl
def S7{ops:Array Oper}{hh:Nat}{qs ds:List Nat}{i j:Nat}{t u:PT}{K:St->Prop}:oz P ops hh qs ds (.both i t j u) K σ=(gK P ops hh qs ds i (oz P ops hh qs ds t K) σ/\gK P ops hh qs ds j (oz P ops hh qs ds u K) σ):=rfl
def S8{ops:Array Oper}{hh:Nat}{q:Bool}{o:Oper}{K:St->Prop}:lK P ops hh q true o K σ=(o.guard=none/\zd hh P o σ K):=rfl
def S9{ops:Array Oper}{hh:Nat}{q:Bool}{o:Oper}{K:St->Prop}:lK P ops hh q false o K σ=(fZ hh q o σ=true/\e7 P ops q o K σ):=rfl
def Ta(P:Program)(hh:Nat)(dst:Option Tmp)(args:List AV)(K:St->Prop)(σ:St):AV->Prop
 |.fn g a6=>EJ P hh g (args++a6) dst K σ
 |_=>False
def Tb{hh:Nat}{dst:Option Tmp}{args:List AV}{K:St->Prop}{g:FuncId}{a6:List AV}:Ta P hh dst args K σ (.fn g a6)=EJ P hh g (args++a6) dst K σ:=rfl
section
variable {dst:Option Tmp} {tt:TypeId} {p:String} {af:Array Edge} {g:Option (Nat×Bool)} {K:St->Prop} {hh:Nat}
def Td(f:Operand)(args:Array Operand)(cQ:Array TypeId):zd hh P ⟨dst,.call ⟨.value f,args,cQ⟩,tt,p,af,g⟩ σ K=Ta P hh dst (args.toList.map (ev σ)) K σ (ev σ f):=by
 simp only[zd];cases ev σ f<;>rfl
def Te{o:Oper}:fZ hh true o σ=true:=by simp[fZ]
def Tf(t:TypeId)(a:Operand):fZ hh false ⟨dst,.load t a,tt,p,af,g⟩ σ=pV hh (ev σ a):=by simp[fZ,cls,Op.operands,tS]
def Tg(t:TypeId)(a:Operand)(f:Nat):fZ hh false ⟨dst,.fieldAddr t a f,tt,p,af,g⟩ σ=pV hh (ev σ a):=by simp[fZ,cls,Op.operands,tS]
def Th(a:Operand):fZ hh false ⟨dst,.nilCheck a,tt,p,af,g⟩ σ=pV hh (ev σ a):=by simp[fZ,cls,Op.operands,tS]
def Ti(t:TypeId)(a i:Operand):fZ hh false ⟨dst,.indexAddr t a i,tt,p,af,g⟩ σ=(pV hh (ev σ a)&&pV hh (ev σ i)):=by simp[fZ,cls,Op.operands,tS]
def Tj(x:Operand)(cQ:Array TypeId):fZ hh false ⟨dst,.call ⟨.builtin .len,#[x],cQ⟩,tt,p,af,g⟩ σ=pV hh (ev σ x):=by simp[fZ,cls,Op.operands,Call.operands,tS]
def oA{o:Oper}(h:(cls o.op==0||decide (3<=cls o.op))=true):fZ hh false o σ=true:=by simp only[fZ,lF,h,Bool.true_or]
def Tk(id r c:Nat):pV hh (.ptr id r c) = !(id==hh):=rfl
def Tl(id a b c:Nat):pV hh (.ref id a b c) = !(id==hh):=rfl
def Tm(v:Value):pV hh (.lit v)=true:=rfl
def Tn(s:Nat)(r:List (List AV)):pV hh (.tree s r)=true:=rfl
def To(r:List AV):pV hh (.bm r)=true:=rfl
def Tp(r:List AV):pV hh (.agg r)=true:=rfl
def Tq(r:List AV):pV hh (.bH r)=true:=rfl
def Ts:pV hh .undef=true:=rfl
def Tt(x:Operand):fZ hh false ⟨dst,.move x,tt,p,af,g⟩ σ=true:=oA P5
def Tu(x:Operand):fZ hh false ⟨dst,.assign x,tt,p,af,g⟩ σ=true:=oA P5
def Tv(c a b:Operand):fZ hh false ⟨dst,.pick c a b,tt,p,af,g⟩ σ=true:=oA P5
def Tw(op:BinOp)(t:TypeId)(x y:Operand)(yt:TypeId):fZ hh false ⟨dst,.binOp op t x y yt,tt,p,af,g⟩ σ=true:=oA P5
def Tx(op:UnOp)(t:TypeId)(x:Operand):fZ hh false ⟨dst,.unOp op t x,tt,p,af,g⟩ σ=true:=oA P5
def Tz(fn:Fn)(a b:Array Operand):fZ hh false ⟨dst,.makeFunc fn a b,tt,p,af,g⟩ σ=true:=oA P5
def TA(s:TypeId)(x:Operand)(f:Nat):fZ hh false ⟨dst,.field s x f,tt,p,af,g⟩ σ=true:=oA P5
def TB(x:Operand)(i:Nat):fZ hh false ⟨dst,.extract x i,tt,p,af,g⟩ σ=true:=oA P5
def TC(t:TypeId)(parts:Array (Nat×Operand)):fZ hh false ⟨dst,.build t parts,tt,p,af,g⟩ σ=true:=oA P5
def TD(e:TypeId):fZ hh false ⟨dst,.alloc e,tt,p,af,g⟩ σ=true:=oA P5
def TE(e:TypeId)(x:Operand):fZ hh false ⟨dst,.box e x,tt,p,af,g⟩ σ=true:=oA P5
def TF(t:TypeId)(l c:Operand):fZ hh false ⟨dst,.makeSlice t l c,tt,p,af,g⟩ σ=true:=oA P5
def TG(t:TypeId)(len:Nat)(parts:Array (Nat×Operand)):fZ hh false ⟨dst,.buildSlice t len parts,tt,p,af,g⟩ σ=true:=oA P5
def TH(t:TypeId)(a x:Operand):fZ hh false ⟨dst,.store t a x,tt,p,af,g⟩ σ=true:=oA P5
def TI(f:Operand)(args:Array Operand)(cQ:Array TypeId):fZ hh false ⟨dst,.call ⟨.value f,args,cQ⟩,tt,p,af,g⟩ σ=true:=oA P5
def TJ(args:Array Operand)(cQ:Array TypeId):fZ hh false ⟨dst,.call ⟨.builtin .append,args,cQ⟩,tt,p,af,g⟩ σ=true:=oA P5
def TK(args:Array Operand)(cQ:Array TypeId):fZ hh false ⟨dst,.call ⟨.builtin .min,args,cQ⟩,tt,p,af,g⟩ σ=true:=oA P5
def TL(args:Array Operand)(cQ:Array TypeId):fZ hh false ⟨dst,.call ⟨.builtin .max,args,cQ⟩,tt,p,af,g⟩ σ=true:=oA P5
end
def Hc:=aau @S4 @S5 @S6 @S7 @S8 @S9 @Tb (aau @Td @Te @Tf @Tg @Th @Ti @Tj (aau @Tk @Tl @Tm @Tn @To @Tp @Tq (aau @Ts @Tt @Tu @Tv @Tw @Tx @Tz (aau @TA @TB @TC @TD @TE @TF @TG (aao @TH @TI @TJ @TK @TL)))))
def AK{hh:Nat}{f:FuncId}{args dU:List AV}{D D':Ob}{dst:Option Tmp}{K:St->Prop}{res:AV}(h:an P f dU [D] res [D'])(h1:zb D=true)(h2:zb D'=true)(h3:σ.aa[hh]?=some D)(h4:gQ res=true)(h5:eY (SY hh) dU args)(hK:K ((⟨σ.env,σ.aa.set hh D'⟩:St).put dst res)):EJ P hh f args dst K σ:=⟨dU,D,res,D',h,h1,h2,h3,h4,h5,hK⟩
def sR{P:Program}{N n0:Nat}{σ:St}{Q:Exit->St->Prop}(n:Nat){id:Nat}{ops:Array Oper}(hd:gH N ops=true)(o:Oper)(ho:ops[n]?=some o)(h:∀ K:St->Prop,(∀ s,Q .normal s->K s)->opsL P ops (ops.toList.take n) (wm P o (opsL P ops (ops.toList.drop (n+1)) K)) σ):W P N n0 (.region id ops false) Q σ:=by
 intro os γ0 a w hn aw;refine wp_region ?_;have Lm:n<ops.size:=(pB.1 ho).1;have e:aZ ops.size=n5 0 (ops.toList.take n).length++(n::n5 (n+1) (ops.toList.drop (n+1)).length):=by
  rw[xp,<- xn];have:=Kl (s:=0) (m:=n) (n:=(ops.toList.drop (n+1)).length+1) (step:=1);simp only[gf,tu]at this;rw[show(ops.toList.take n).length=n by simp;omega,this];congr 1;simp;omega
 rw[e];refine Ah _ a w ?_;refine uN (rC hd) (K:=wm P o (opsL P ops (ops.toList.drop (n+1)) (Q .normal))) (λσ' a' w' hk dG=>?_) (ops.toList.take n) 0 σ a w (λk hk=>?_) (h _ (λ_ h=>h)) aw
 ·show wpOps P ops _ _ a' w';rw[wpOps_cons];unfold wpOp;simp only[ho];have hw:Region.wanted o (yielded ops a'.tmps)=true:=by simp[Region.wanted,hk.1]
  rw[if_pos hw];left;refine LX hk dG (rC hd o (gY (by simpa using ho))) (λσ2 a2 w2 bW zf=>?_);refine uN (rC hd) (K:=Q .normal) (λEM a3 w3 kR mY=>⟨EM,kR,mY⟩) (ops.toList.drop (n+1)) (n+1) σ2 a2 w2 (λk hk=>?_) bW zf;rw[oL];simp
 ·simp only[fy,vN]at hk;rw[Kk G3];simp
end Go.Am
namespace Go.Am
variable {P:Program} {N n0:Nat} {σ:St} {Q:Exit->St->Prop}
def tT:Exit->Bool
 |.normal=>true
 |_=>false
def AL(id:Nat):Exit->Bool
 |.normal=>true
 |.exit j=>j==id
 |_=>false
def Ib{e:Exit}(h:tT e=false):e≠.normal:=by intro h2;subst h2;simp[tT]at h
def L9{id:Nat}{e:Exit}(h:AL id e=false):e≠.normal/\e≠.exit id:=by
 constructor
 ·intro h2;subst h2;simp[AL]at h
 ·intro h2;subst h2;simp[AL]at h
theorem rk{id:Nat}{ops:Array Oper}{y:Code}(h:∀ K:St->Prop,(∀ s,W P N n0 y Q s->K s)->opsL P ops ops.toList K σ)(hd:gH N ops=true:=by decide):W P N n0 (.seq (.region id ops false) y) Q σ:=xO hd h
theorem TN{id:Nat}{ops:Array Oper}(h:∀ K:St->Prop,(∀ s,Q .normal s->K s)->opsL P ops ops.toList K σ)(hd:gH N ops=true:=by decide):W P N n0 (.region id ops false) Q σ:=adY hd h
theorem rd{id:Nat}{ops:Array Oper}{y:Code}(h:∀ K:St->Prop,(∀ s,W P N n0 y Q s->K s)->opsL P ops ops.toList K σ)(hm:P.follows .mixedOrders=true:=by rfl)(hd:gH N ops=true:=by decide)(ht:Ao ops=true:=by decide +kernel):W P N n0 (.seq (.region id ops true) y) Q σ:=adZ hm hd ht h
theorem rde{id:Nat}{ops:Array Oper}(h:∀ K:St->Prop,(∀ s,Q .normal s->K s)->opsL P ops ops.toList K σ)(hm:P.follows .mixedOrders=true:=by rfl)(hd:gH N ops=true:=by decide)(ht:Ao ops=true:=by decide +kernel):W P N n0 (.region id ops true) Q σ:=ad0 hm hd ht h
theorem rb{id:Nat}{ops:Array Oper}{y:Code}(h:∀ K:St->Prop,(∀ s,W P N n0 y Q s->K s)->tR P ops ops.toList K σ)(hm:P.follows .mixedOrders=true:=by rfl)(hd:gH N ops=true:=by decide)(ht:H3 ops=true:=by decide +kernel):W P N n0 (.seq (.region id ops true) y) Q σ:=afi hm hd ht h
theorem EN{id:Nat}{ops:Array Oper}(h:∀ K:St->Prop,(∀ s,Q .normal s->K s)->tR P ops ops.toList K σ)(hm:P.follows .mixedOrders=true:=by rfl)(hd:gH N ops=true:=by decide)(ht:H3 ops=true:=by decide +kernel):W P N n0 (.region id ops true) Q σ:=afj hm hd ht h
theorem ra{id:Nat}{ops:Array Oper}{y:Code}(h:∀ K:St->Prop,(∀ s,W P N n0 y Q s->K s)->tQ P ops ops.toList K σ)(hm:P.follows .mixedOrders=true:=by rfl)(hd:gH N ops=true:=by decide)(ht:H2 ops=true:=by decide +kernel):W P N n0 (.seq (.region id ops true) y) Q σ:=aff hm hd ht h
theorem EO{id:Nat}{ops:Array Oper}(h:∀ K:St->Prop,(∀ s,Q .normal s->K s)->tQ P ops ops.toList K σ)(hm:P.follows .mixedOrders=true:=by rfl)(hd:gH N ops=true:=by decide)(ht:H2 ops=true:=by decide +kernel):W P N n0 (.region id ops true) Q σ:=afg hm hd ht h
def Wk{x y:Code}(h:∀ Q':Exit->St->Prop,(∀ s,W P N n0 y Q s->Q' .normal s)->(∀ e s,tT e=false->Q e s->Q' e s)->W P N n0 x Q' σ):W P N n0 (.seq x y) Q σ :=
 W_k λQ' h1 h2=>h Q' h1 λe s he=>h2 e s (Ib he)
def Wb{id:Nat}{c:Code}(h:∀ Q':Exit->St->Prop,(∀ s,Q .normal s->Q' .normal s)->(∀ s,Q .normal s->Q' (.exit id) s)->(∀ e s,AL id e=false->Q e s->Q' e s)->W P N n0 c Q' σ):W P N n0 (.block id c) Q σ :=
 adV λQ' h1 h2 h3=>h Q' h1 h2 λe s he=>h3 e s (L9 he).1 (L9 he).2
theorem Wc{c:Operand}{x y:Code}{t:Bool}(ht:t=true->W P N n0 x Q σ)(hf:t=false->W P N n0 y Q σ)(hc:ev σ c=.lit (.bool t):=by(simp only[Go.Am.n8,Go.Am.Lc,↓reduceIte,Nat.reduceEqDiff,Nat.reduceBEq];exact rfl)):W P N n0 (.cond c x y) Q σ:=Ek hc ht hf
def aO{α:Type}{c:Code}(S:α->St)(I:α->Prop)(M:α->Nat)(x0:α)(hI:I x0)(h0:ay n0 σ (S x0))(round:∀ x,I x->∀ Q':Exit->St->Prop,(∀ s y,I y->M y<M x->ay n0 s (S y)->Q' .normal s)->(∀ e s,tT e=false->Q e s->Q' e s)->W P N n0 c Q' (S x)):W P N n0 (.loop c) Q σ :=
 adU S I M x0 hI h0 λx hx Q' h1 h2=>round x hx Q' h1 λe s he=>h2 e s (Ib he)
end Go.Am
namespace Go.Am
variable {P:Program} {N n0:Nat} {σ:St} {Q:Exit->St->Prop}
def afA{K0:St->Prop}(n m:Nat){ops:Array Oper}(hd:gH N ops=true)(o o2:Oper)(ho:ops[n]?=some o)(e9:ops[n+1+m]?=some o2){os:List Ob}{γ0:Cx}{a:Act}{w:World}{R:Exit->Act->World->Prop}(aw:gP N os γ0 σ a w)(Ic:∀ σ' a' w',K0 σ'->gP N os γ0 σ' a' w'->R .normal a' w')(h:opsL P ops (ops.toList.take n) (wm P o (opsL P ops ((ops.toList.drop (n+1)).take m) (wm P o2 (opsL P ops (ops.toList.drop (n+1+m+1)) K0)))) σ):
  wpOps P ops R (aZ ops.size) a w:=by
 have Lm:n+1+m<ops.size:=(pB.1 e9).1;have e:aZ ops.size=n5 0 (ops.toList.take n).length++(n::(n5 (n+1) ((ops.toList.drop (n+1)).take m).length++((n+1+m)::n5 (n+1+m+1) (ops.toList.drop (n+1+m+1)).length))):=by
  rw[xp,<- xn];have h1:((ops.toList.drop (n+1)).take m).length=m:=PX;have h2:(ops.toList.take n).length=n:=PX;have h3:(ops.toList.drop (n+1+m+1)).length=ops.size-(n+1+m+1):=G9;rw[h1,h2,h3];have a1:=Kl (s:=n+1) (m:=m) (n:=ops.size-(n+1+m+1)+1) (step:=1);simp only[tu]at a1;rw[a1,<- xn];have a2:=Kl (s:=0) (m:=n) (n:=m+(ops.size-(n+1+m+1)+1)+1) (step:=1);simp only[gf,tu]at a2;rw[a2];congr 1;omega
 rw[e];refine Ah _ a w ?_;refine uN (rC hd) (K:=wm P o (opsL P ops ((ops.toList.drop (n+1)).take m) (wm P o2 (opsL P ops (ops.toList.drop (n+1+m+1)) K0)))) (λσ' a' w' hk dG=>?_) (ops.toList.take n) 0 σ a w (λk hk=>?_) h aw
 ·show wpOps P ops _ _ a' w';rw[wpOps_cons];unfold wpOp;simp only[ho];have hw:Region.wanted o (yielded ops a'.tmps)=true:=by simp[Region.wanted,hk.1]
  rw[if_pos hw];left;refine LX hk dG (rC hd o (gY (by simpa using ho))) (λσ2 a2 w2 bW zf=>?_);refine Ah _ a2 w2 ?_;refine uN (rC hd) (K:=wm P o2 (opsL P ops (ops.toList.drop (n+1+m+1)) K0)) (λσ' a' w' hk dG=>?_) ((ops.toList.drop (n+1)).take m) (n+1) σ2 a2 w2 (λk hk=>?_) bW zf
  ·show wpOps P ops _ _ a' w';rw[wpOps_cons];unfold wpOp;simp only[e9];have hw:Region.wanted o2 (yielded ops a'.tmps)=true:=by simp[Region.wanted,hk.1]
   rw[if_pos hw];left;refine LX hk dG (rC hd o2 (gY (by simpa using e9))) (λσ2 a2 w2 bW zf=>?_);refine uN (rC hd) (K:=K0) (λEM a3 w3 kR mY=>Ic EM a3 w3 kR mY) (ops.toList.drop (n+1+m+1)) (n+1+m+1) σ2 a2 w2 (λk hk=>?_) bW zf;rw[oL];simp
  ·simp only[fy,List.length_drop,vN]at hk;rw[Kk G3,oL];simp
 ·simp only[fy,vN]at hk;rw[Kk G3];simp
def afB(n m:Nat){id:Nat}{ops:Array Oper}(hd:gH N ops=true)(o o2:Oper)(ho:ops[n]?=some o)(e9:ops[n+1+m]?=some o2)(h:∀ K:St->Prop,(∀ s,Q .normal s->K s)->opsL P ops (ops.toList.take n) (wm P o (opsL P ops ((ops.toList.drop (n+1)).take m) (wm P o2 (opsL P ops (ops.toList.drop (n+1+m+1)) K)))) σ):W P N n0 (.region id ops false) Q σ:=by
 intro os γ0 a w hn aw;refine wp_region ?_;exact afA n m hd o o2 ho e9 aw (λEM a3 w3 kR mY=>⟨EM,kR,mY⟩) (h _ (λ_ h=>h))
end Go.Am
namespace Go.Am
variable {P:Program} {N n0:Nat} {σ:St} {Q:Exit->St->Prop}
class Head (p:Prop):Prop where
 on:True
section
variable {ops:Array Oper} {o:Oper} {l:List Oper} {K:St->Prop}
instance:Head (opsL P ops (o::l) K σ):=⟨trivial⟩
instance {qs:List Nat}{t:PT}:Head (ka P ops qs t K σ):=⟨trivial⟩
instance {qs:List Nat}{i:Nat}:Head (sQ P ops qs i (o::l) K σ):=⟨trivial⟩
instance:Head (tQ P ops (o::l) K σ):=⟨trivial⟩
instance:Head (tR P ops (o::l) K σ):=⟨trivial⟩
end
def gO{p:Prop}[Head p](h:p):p:=h
class Ie (p:Prop) (b:outParam Bool) (A B:outParam Prop):Prop where
 sp:(b=true->A)->(b=false->B)->p
instance {o:Oper}{K:St->Prop}{b want:Bool}:Ie (pO P o K b want σ) b (pO P o K true want σ) (pO P o K false want σ):=⟨aek⟩
instance {q:Bool}{o:Oper}{K:St->Prop}{b want:Bool}:Ie (qo q P o K b want σ) b (qo q P o K true want σ) (qo q P o K false want σ):=⟨adS⟩
def gS{p:Prop}{b:Bool}{A B:Prop}[h:Ie p b A B](h1:b=true->A)(h2:b=false->B):p:=h.sp h1 h2
def Ig:Code->Option Exit
 |.skip=>some .normal
 |.label _=>some .normal
 |.exit id=>some (.exit id)
 |.ret=>some .ret
 |_=>none
def Wz{c:Code}{e:Exit}(hc:Ig c=some e)(h:Q e σ):W P N n0 c Q σ:=by
 cases c<;>simp[Ig]at hc;all_goals subst hc
 all_goals first|exact Ej h|exact aeg h|exact aeh h|exact aef h
def Ih(P:Program)(d:Bool)(ops:Array Oper):Bool:=!d||(P.follows .mixedOrders&&Ao ops)
theorem rr{id:Nat}{ops:Array Oper}{d:Bool}{y:Code}(h:∀ K:St->Prop,(∀ s,W P N n0 y Q s->K s)->opsL P ops ops.toList K σ)(ht:Ih P d ops=true:=by decide +kernel)(hd:gH N ops=true:=by decide):W P N n0 (.seq (.region id ops d) y) Q σ:=by
 cases d
 ·exact rk h hd
 ·have h2:P.follows .mixedOrders=true/\Ao ops=true:=by simpa [Ih] using ht
  exact rd h h2.1 hd h2.2
theorem wv{id:Nat}{ops:Array Oper}{d:Bool}(h:∀ K:St->Prop,(∀ s,Q .normal s->K s)->opsL P ops ops.toList K σ)(ht:Ih P d ops=true:=by decide +kernel)(hd:gH N ops=true:=by decide):W P N n0 (.region id ops d) Q σ:=by
 cases d
 ·exact TN h hd
 ·have h2:P.follows .mixedOrders=true/\Ao ops=true:=by simpa [Ih] using ht
  exact rde h h2.1 hd h2.2
class EP (rows:List (List AV)) (sz:outParam Nat):Prop where
 wid:∀ row∈rows,row.length=sz
 cp:∀ row∈rows,∀ v∈row,(∃ x,v=AV.lit x)\/∃ s r,v=AV.tree s r
instance (xs:List Int):EP (ints xs) 1:=⟨ny _,oa _⟩
instance (xs:List Bool):EP (aX xs) 1:=⟨D9 _,HB _⟩
instance (xs:List (List Int)):EP (dQ xs) 1:=⟨xJ _,xI _⟩
instance {α:Type}{enc:α->List AV}{sz:Nat}[Row enc sz](xs:List α):EP (rowsOf enc xs) sz:=⟨fQ _,jX _⟩
theorem aI.fz{kp:Nat->Prop}{ρ:Nat->Nat}{id sz len:Nat}{rows:List (List AV)}[h:EP rows sz](ho:σ.aa[id]?=some (.arr sz rows))(hl:len=rows.length)(tB:¬ kp id:=by first|exact iD (by decide)|decide):aI σ kp ρ true (.tree sz rows) (.ref id sz 0 len):=aI.cp ho h.wid hl tB h.cp
theorem ay.se(aq:List Nat)(snap:Bool){l:List (Nat×AV)}{co:List Ob}(ho:qn (bA σ.aa.length aq) σ.aa aq co)(h:tF (aI σ (kept aq co) (bA σ.aa.length aq) snap) σ.env l)(b7:aq.Nodup:=by decide)(hn:n0<=aq.length:=by decide)(cT:∀ i,i<n0->aq.getD i 0=i:=by decide):ay n0 σ ⟨Am.au l,co⟩:=ay.aq aq snap l co b7 ho hn cT h
theorem Ma(aq:List Nat)(snap:Bool){v res:AV}{bI:List Ob}(ho:qn (bA σ.aa.length aq) σ.aa aq bI)(h:aI σ (kept aq bI) (bA σ.aa.length aq) snap res v)(b7:aq.Nodup:=by decide)(hn:n0<=aq.length:=by decide)(cT:∀ i,i<n0->aq.getD i 0=i:=by decide):pH n0 σ v res bI:=dr aq snap b7 ho hn cT h
end Go.Am
namespace Go.Am
def TO:eG []=.bH []:=rfl
def TP(a b:AV)(l:List AV):eG (a::b::l)=.bH (a::b::l):=rfl
end Go.Am
namespace Go.Am
variable {P:Program} {N n0:Nat} {σ:St}
inductive PF where
 |nil
 |take (i:Nat) (t:PF)
 |both (i:Nat) (t:PF) (j:Nat) (u:PF)
 |three (i:Nat) (t:PF) (j:Nat) (u:PF) (k:Nat) (v:PF)
 |four (i:Nat) (t:PF) (j:Nat) (u:PF) (k:Nat) (v:PF) (l:Nat) (w:PF)
def PF.ok(ops:Array Oper)(qs:List Nat):PF->Nat->Array Bool->Bool
 |.nil,n,aN=>n==0&&(Region.ready .any ops aN).isEmpty
 |.take _ _,0,_=>false
 |.take i t,n+1,aN=>Hu ops qs aN i (KU ops i)&&t.ok ops qs n (aN.setIfInBounds i true)
 |.both _ _ _ _,0,_=>false
 |.both i t j u,n+1,aN=>(Region.ready .any ops aN==[i,j])&&t.ok ops qs n (aN.setIfInBounds i true)&&u.ok ops qs n (aN.setIfInBounds j true)
 |.three _ _ _ _ _ _,0,_=>false
 |.three i t j u k v,n+1,aN=>(Region.ready .any ops aN==[i,j,k])&&t.ok ops qs n (aN.setIfInBounds i true)&&u.ok ops qs n (aN.setIfInBounds j true)&&v.ok ops qs n (aN.setIfInBounds k true)
 |.four _ _ _ _ _ _ _ _,0,_=>false
 |.four i t j u k v l w,n+1,aN=>(Region.ready .any ops aN==[i,j,k,l])&&t.ok ops qs n (aN.setIfInBounds i true)&&u.ok ops qs n (aN.setIfInBounds j true)&&v.ok ops qs n (aN.setIfInBounds k true)&&w.ok ops qs n (aN.setIfInBounds l true)
def jY(P:Program)(ops:Array Oper)(qs:List Nat):PF->(St->Prop)->St->Prop
 |.nil,K,σ=>K σ
 |.take i t,K,σ=>du P ops qs i (jY P ops qs t K) σ
 |.both i t j u,K,σ=>du P ops qs i (jY P ops qs t K) σ/\du P ops qs j (jY P ops qs u K) σ
 |.three i t j u k v,K,σ=>du P ops qs i (jY P ops qs t K) σ/\du P ops qs j (jY P ops qs u K) σ/\du P ops qs k (jY P ops qs v K) σ
 |.four i t j u k v l w,K,σ=>du P ops qs i (jY P ops qs t K) σ/\du P ops qs j (jY P ops qs u K) σ/\du P ops qs k (jY P ops qs v K) σ/\du P ops qs l (jY P ops qs w K) σ
def vd{ops:Array Oper}{qs:List Nat}{K:St->Prop}:∀ (t:PF) (n:Nat) (aN:Array Bool) (σ:St),t.ok ops qs n aN=true->jY P ops qs t K σ->uV P ops qs K n aN σ
 |.nil,n,aN,σ,h,hp=>by
  simp only[PF.ok,bk,beq_iff_eq,PO]at h;obtain⟨rfl,h⟩:=h;exact⟨h,hp⟩
 |.take _ _,0,_,_,h,_=>by simp[PF.ok]at h
 |.take i t,n+1,aN,σ,h,hp=>by
  simp only[PF.ok,bk]at h;exact RC h.1 (n9 (λs hs=>vd t n _ s h.2 hs) hp)
 |.both _ _ _ _,0,_,_,h,_=>by simp[PF.ok]at h
 |.both i t j u,n+1,aN,σ,h,hp=>by
  simp only[PF.ok,bk,beq_iff_eq]at h;obtain⟨⟨h1,h2⟩,h3⟩:=h;refine⟨λe=>by rw[h1]at e;simp at e,λk hk=>?_⟩;rw[h1]at hk;simp only[cu,jQ,or_false]at hk;rcases hk with rfl|rfl
  ·exact n9 (λs hs=>vd t n _ s h2 hs) hp.1
  ·exact n9 (λs hs=>vd u n _ s h3 hs) hp.2
 |.three _ _ _ _ _ _,0,_,_,h,_=>by simp[PF.ok]at h
 |.three i t j u k v,n+1,aN,σ,h,hp=>by
  simp only[PF.ok,bk,beq_iff_eq]at h;obtain⟨⟨⟨h1,h2⟩,h3⟩,h4⟩:=h;refine⟨λe=>by rw[h1]at e;simp at e,λx hk=>?_⟩;rw[h1]at hk;simp only[cu,jQ,or_false]at hk;rcases hk with rfl|rfl|rfl
  ·exact n9 (λs hs=>vd t n _ s h2 hs) hp.1
  ·exact n9 (λs hs=>vd u n _ s h3 hs) hp.2.1
  ·exact n9 (λs hs=>vd v n _ s h4 hs) hp.2.2
 |.four _ _ _ _ _ _ _ _,0,_,_,h,_=>by simp[PF.ok]at h
 |.four i t j u k v l w,n+1,aN,σ,h,hp=>by
  simp only[PF.ok,bk,beq_iff_eq]at h;obtain⟨⟨⟨⟨h1,h2⟩,h3⟩,h4⟩,h5⟩:=h;refine⟨λe=>by rw[h1]at e;simp at e,λx hk=>?_⟩;rw[h1]at hk;simp only[cu,jQ,or_false]at hk;rcases hk with rfl|rfl|rfl|rfl
  ·exact n9 (λs hs=>vd t n _ s h2 hs) hp.1
  ·exact n9 (λs hs=>vd u n _ s h3 hs) hp.2.1
  ·exact n9 (λs hs=>vd v n _ s h4 hs) hp.2.2.1
  ·exact n9 (λs hs=>vd w n _ s h5 hs) hp.2.2.2
def afC{id:Nat}{ops:Array Oper}{Q:Exit->St->Prop}(qs:List Nat)(t:PF)(hm:P.follows .mixedOrders=true)(hd:gH N ops=true)(ht:t.ok ops qs ops.size (vR ops.size false)=true)(h:jY P ops qs t (Q .normal) σ):W P N n0 (.region id ops true) Q σ :=
 RA qs hm hd (vd t _ _ σ ht h)
section
variable {ops:Array Oper} {qs:List Nat} {K:St->Prop} {i j k l:Nat} {t u v w:PF}
def ER:jY P ops qs .nil K σ=K σ:=rfl
def Ii:jY P ops qs (.take i t) K σ=du P ops qs i (jY P ops qs t K) σ:=rfl
def Ij:jY P ops qs (.both i t j u) K σ=(du P ops qs i (jY P ops qs t K) σ/\du P ops qs j (jY P ops qs u K) σ):=rfl
def Ik:jY P ops qs (.three i t j u k v) K σ=(du P ops qs i (jY P ops qs t K) σ/\du P ops qs j (jY P ops qs u K) σ/\du P ops qs k (jY P ops qs v K) σ):=rfl
def Il:jY P ops qs (.four i t j u k v l w) K σ=(du P ops qs i (jY P ops qs t K) σ/\du P ops qs j (jY P ops qs u K) σ/\du P ops qs k (jY P ops qs v K) σ/\du P ops qs l (jY P ops qs w K) σ):=rfl
end
def Fc:=aao @ER @Ii @Ij @Ik @Il
end Go.Am

