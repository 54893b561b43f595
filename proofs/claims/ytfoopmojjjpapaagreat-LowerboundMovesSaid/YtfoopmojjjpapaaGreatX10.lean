import Derived.Test.YtfoopmojjjpapaaGreatX08
import Derived.Test.YtfoopmojjjpapaaGreatX09
import Derived.Laws.StructEq
set_option linter.all false
set_option maxHeartbeats 0
set_option maxRecDepth 20000
open List renaming all_eq_true→gH,mem_map→b8,range'→lH,tail→ES,tail_drop→ET,range→bn,range_eq_range'→uV,getElem?_eq_some_iff→aR,getElem?_eq_getElem→bT,getElem?_set→bY,getElem?_append_left→eB,drop_drop→Ix,take_append_drop→Ip,map_cons→fW,contains_iff_mem→uY,mem_filter→yT,mem_range→oV,getElem?_append_right→gX
open Bool renaming and_eq_true→aZ,false_eq_true→iS,eq_iff_iff→nS
open Option renaming some→cj
open Array renaming getElem?_eq_some_iff→mg
namespace Go.Am
variable {σ:St}
class Row {α:Type} (enc:α->List AV) (sz:outParam Nat):Prop where
 wid:∀ x,(enc x).length=sz
 ok:∀ x,∀ v∈enc x,(∃ y,v=.lit y/\y.oneCell'=true)\/∃ s r,v=.tree s r
def rowsOf{α:Type}(enc:α->List AV)(xs:List α):List (List AV):=xs.map enc
section
variable {α:Type} {enc:α->List AV} {sz:Nat}
def cf(xs:List α):(rowsOf enc xs).length=xs.length:=by simp[rowsOf]
def fS[Inhabited α](xs:List α)(i:Nat)(h:i<xs.length):(rowsOf enc xs).getD i []=enc (xs.getD i default):=by simp[rowsOf,h]
def JS[Inhabited α](xs:List α)(i:Nat)(h:i<xs.length):(rowsOf enc xs)[i]?=some (enc (xs.getD i default)):=by simp[rowsOf,h]
def Qs(xs:List α):(rowsOf enc xs).take xs.length=rowsOf enc xs:=by rw[List.take_of_length_le (by simp[rowsOf])]
def JT(xs ys:List α):rowsOf enc xs++rowsOf enc ys=rowsOf enc (xs++ys):=by simp[rowsOf]
def ox(xs:List α)(x:α):rowsOf enc xs++[enc x]=rowsOf enc (xs++[x]):=by simp[rowsOf]
def Qt(xs:List α)(i:Nat)(x:α):(rowsOf enc xs).set i (enc x)=rowsOf enc (xs.set i x):=by simp[rowsOf,List.map_set]
def Qu[Row enc sz](x:α):(enc x).all cV=true:=by
 rw[gH];intro v hv;rcases Row.ok (enc:=enc) x v hv with⟨y,rfl,h⟩|⟨s,r,rfl⟩
 ·simpa [cV] using h
 ·rfl
def JU[Row enc sz](xs:List α):((rowsOf enc xs).all λrow=>row.all cV)=true:=by
 simp only[rowsOf,List.all_map,gH];intro x _;exact Qu (enc:=enc) x
def adP{l:List AV}(h:∀ v∈l,ki v=true):lL l=true:=by
 induction l with
 |nil=>rfl
 |cons v l ih=>simp only[lL,aZ];exact⟨h v Iw,ih λx hx=>h x (by simp[hx])⟩
def adQ[Row enc sz](x:α):lL (enc x)=true:=adP λv hv=>by
 rcases Row.ok (enc:=enc) x v hv with⟨y,rfl,_⟩|⟨s,r,rfl⟩<;>rfl
def vq[Row enc sz](ρ:Nat->Nat)(s:Nat)(xs:List α):bH ρ (.arr s (rowsOf enc xs))=.arr s (rowsOf enc xs):=CC (by
 intro row hr;simp only[rowsOf,b8]at hr;obtain⟨x,_,rfl⟩:=hr;exact adQ (enc:=enc) x)
def my[Row enc sz](xs:List α):∀ row∈rowsOf enc xs,∀ v∈row,(∃ x,v=AV.lit x)\/∃ s r,v=AV.tree s r:=by
 intro row hr v hv;simp only[rowsOf,b8]at hr;obtain⟨x,_,rfl⟩:=hr;rcases Row.ok (enc:=enc) x v hv with⟨y,rfl,_⟩|h
 ·exact .inl ⟨_,rfl⟩
 ·exact .inr h
def ig[Row enc sz](xs:List α):∀ row∈rowsOf enc xs,row.length=sz:=by
 intro row hr;simp only[rowsOf,b8]at hr;obtain⟨x,_,rfl⟩:=hr;exact Row.wid (enc:=enc) x
end
structure cE where
 wk:Int
 day:Int
 st:Int
 len:Int
 room:Int
 ch:List (Int×Int)
 deriving Inhabited
structure Pr where
 fst:Int
 snd:Int
 dK:Int
 ax:List Int
 deriving Inhabited
structure Ld where
 cls:Int
 opt:Int
 wt:Int
 deriving Inhabited
structure Ct where
 dK:Int
 aY:List Ld
 most:Int
 bX:Int
 deriving Inhabited
structure ah where
 cls:List (List cE)
 ae:List Pr
 aC:List Ct
 rules:Int
 deriving Inhabited
def i64(n:Int):AV:=NX n
def dj(c:Int×Int):List AV:=[NX c.1,NX c.2]
def b6(o:cE):List AV:=[NX o.wk,NX o.day,NX o.st,NX o.len,NX o.room,.tree 2 (rowsOf dj o.ch)]
def aQ(l:List cE):List AV:=[.tree 6 (rowsOf b6 l)]
def aH(p:Pr):List AV:=[NX p.fst,NX p.snd,NX p.dK,.tree 1 (ints p.ax)]
def qo(l:Ld):List AV:=[NX l.cls,NX l.opt,NX l.wt]
def db(c:Ct):List AV:=[NX c.dK,.tree 3 (rowsOf qo c.aY),NX c.most,NX c.bX]
def ao(m:ah):List AV:=[.tree 1 (rowsOf aQ m.cls),.tree 4 (rowsOf aH m.ae),.tree 4 (rowsOf db m.aC),NX m.rules]
def zy{l:List AV}(h:(l.all λv=>match v with|.lit y=>y.oneCell'|.tree ..=>true|_=>false)=true):∀ v∈l,(∃ y,v=AV.lit y/\y.oneCell'=true)\/∃ s r,v=AV.tree s r:=by
 intro v hv;have:=gH.1 h v hv;cases v<;>simp at this
 ·exact .inl ⟨_,rfl,this⟩
 ·exact .inr ⟨_,_,rfl⟩
instance:Row dj 2:=⟨λ_=>rfl,λ_=>zy rfl⟩
instance:Row b6 6:=⟨λ_=>rfl,λ_=>zy rfl⟩
instance:Row aQ 1:=⟨λ_=>rfl,λ_=>zy rfl⟩
instance:Row aH 4:=⟨λ_=>rfl,λ_=>zy rfl⟩
instance:Row qo 3:=⟨λ_=>rfl,λ_=>zy rfl⟩
instance:Row db 4:=⟨λ_=>rfl,λ_=>zy rfl⟩
instance:Row ao 4:=⟨λ_=>rfl,λ_=>zy rfl⟩
end Go.Am
namespace Go.Am
variable {P:Program} {N n0:Nat} {σ:St} {Q:Exit->St->Prop}
def ri(P:Program)(ops:Array Oper)(qs:List Nat):Nat->List Oper->(St->Prop)->St->Prop
 |_,[],K,σ=>K σ
 |i,o::r,K,σ=>dX P ops (qs.contains i) o (ri P ops qs (i+1) r K) σ
def Qv{ops:Array Oper}{qs:List Nat}{i:Nat}{K:St->Prop}:ri P ops qs i [] K σ=K σ:=by simp only[ri]
def FT{ops:Array Oper}{qs:List Nat}{i:Nat}{o:Oper}{r:List Oper}{K:St->Prop}:ri P ops qs i (o::r) K σ=dX P ops (qs.contains i) o (ri P ops qs (i+1) r K) σ:=by simp only[ri]
def JV{ops:Array Oper}{qs:List Nat}{K:St->Prop}:∀ (l:List Oper) (i:Nat) (σ:St),ops.toList.drop i=l->ri P ops qs i l K σ->jx P ops qs (jy (lH i l.length)) K σ
 |[],i,σ,_,h=>h
 |o::r,i,σ,hl,h=>by
  have hi:ops[i]?=some o:=by
   have:(ops.toList.drop i)[0]?=some o:=by rw[hl];rfl
   simpa using this
  have hr:ops.toList.drop (i+1)=r:=by
   have:=congrArg ES hl;simpa [ET] using this
  rw[List.length_cons,List.range'_succ];show bZ P ops qs i (jx P ops qs (jy (lH (i+1) r.length)) K) σ;unfold bZ;simp only[hi];have hm:∀ s,ri P ops qs (i+1) r K s->jx P ops qs (jy (lH (i+1) r.length)) K s:=λs hs=>JV r (i+1) s hr hs;exact CB hm h
def FU(ops:Array Oper)(qs:List Nat):Bool:=(jy (bn ops.size)).ok ops qs ops.size (Array.replicate ops.size false)
def Qw{id:Nat}{ops:Array Oper}{y:Code}(qs:List Nat)(hm:P.follows .mixedOrders=true)(hd:eU N ops=true)(ht:FU ops qs=true)(h:∀ K:St->Prop,(∀ s,W P N n0 y Q s->K s)->ri P ops qs 0 ops.toList K σ):
  W P N n0 (.seq (.region id ops true) y) Q σ :=
 Pe qs _ hm hd ht λK hK=>by
  have:=JV (P:=P) (ops:=ops) (qs:=qs) ops.toList 0 σ rfl (h K hK);rw[uV];simpa using this
def FV{id:Nat}{ops:Array Oper}(qs:List Nat)(hm:P.follows .mixedOrders=true)(hd:eU N ops=true)(ht:FU ops qs=true)(h:∀ K:St->Prop,(∀ s,Q .normal s->K s)->ri P ops qs 0 ops.toList K σ):
  W P N n0 (.region id ops true) Q σ :=
 nY qs _ hm hd ht (by
  have:=JV (P:=P) (ops:=ops) (qs:=qs) ops.toList 0 σ rfl (h _ (λ_ h=>h));rw[uV];simpa using this)
def b7{f:FuncId}{args:List AV}{dst:Option Tmp}{K:St->Prop}{res:AV}(h:Holds P f args [] res [])(ha:lL args=true)(hr:ki res=true)(hK:K (σ.put dst res)):IM P f args dst K σ :=
 ⟨res,h,ha,hr,hK⟩
end Go.Am
namespace Go.Am
variable {P:Program} {N n0:Nat} {σ:St} {Q:Exit->St->Prop}
def bg.JW{σ:St}{γ:Cx}(h:bg σ γ){id:Nat}{cells cells':List AV}(ho:σ.aa[id]?=some (.var cells))(hl:cells'.length=cells.length)(hc:∀ (c:Nat) v v',cells[c]?=some v->cells'[c]?=some v'->∀ cv,aw σ.aa γ.w γ.Z γ.blk v cv->aw σ.aa γ.w γ.Z γ.blk v' cv):bg ⟨σ.env,σ.aa.set id (.var cells')⟩ γ:=by
 obtain⟨b,cap,cur,t,h1,h2,h3,h4⟩:=h.dF id _ ho;have:=h.write (ob':=.var cells') ho Iw (by simp[Ob.dT,hl]) h1 (w':=γ.w) h2 (λ_ _=>rfl) rfl ⟨rfl,by rw[h3,hl],λc v hv=>?_⟩
 ·exact this
 ·have a6:c<cells.length:=by rw[<- hl];exact(aR.1 hv).1
  exact hc c _ v (bT a6) hv _ (h4 c _ (bT a6))
def Fr.JW(os:List Ob)(γ:Cx){id:Nat}{cells cells':List AV}(ho:os[id]?=some (.var cells))(hl:cells'.length=cells.length):Fr os γ (os.set id (.var cells')) γ where
 kJ:=rfl
 tape:=rfl
 output:=rfl
 size:=Nat.le_refl _
 dV:=λ_ _ _=>rfl
 z0:=λ_ h=>h
 z1:=λ_ h=>.inl h
 own:=by
  rintro b⟨i,o,c,⟨x,hx,eF⟩,hb⟩;rw[bY]at hx;split at hx
  ·rename_i e;subst e;exact .inl ⟨id,o,c,⟨_,ho,Iw⟩,hb⟩
  ·exact .inl ⟨i,o,c,⟨x,hx,eF⟩,hb⟩
 len:=Iw
 dY:=by
  rintro i hi⟨x,hx,eF⟩;have hx0:=hx;rw[bY]at hx;split at hx
  ·rename_i e;subst e;exact⟨rfl,.var cells,.var cells',ho,by rw[bY];simp[hi],by simp[Ob.dT,hl]⟩
  ·exact⟨rfl,x,x,hx,hx0,Ob.jg eF⟩
def aF.qq(id c sz:Nat){cells:List AV}(ho:σ.aa[id]?=some (.var cells))(hc:cells[c]?=some (.lit (.slice none 0 0)))(h0:0<sz):
  aF n0 σ ⟨σ.env,(σ.aa++[Ob.arr sz []]).set id (.var (cells.set c (.ref σ.aa.length sz 0 0)))⟩:=by
 intro os γ0 γ _ hs hf;have hp:=hs.zi h0;have bO:id<σ.aa.length:=(aR.1 ho).1;have cD:(σ.aa++[Ob.arr sz []])[id]?=some (.var cells):=by rw[eB bO];exact ho
 refine⟨{ γ with blk:=c6 γ.blk σ.aa.length none },rfl,rfl,?_,(hf.trans (Fr.zi _ _ _)).trans (Fr.JW _ _ cD (cells':=cells.set c (.ref σ.aa.length sz 0 0)) Iw)⟩;refine hp.JW cD (cells':=cells.set c (.ref σ.aa.length sz 0 0)) Iw (λk v v' hv p' cv hr=>?_);rw[bY]at p';split at p'
 ·rename_i e;subst e;split at p'
  ·simp only[cj.injEq]at p';subst p';have hk:cells[c]?=some v:=hv;rw[hc]at hk;simp only[cj.injEq]at hk;subst hk;rw[hr.cy];exact .lR _ _ (List.getElem?_concat_length ..) (by simp[c6])
  ·simp at p'
 ·have hk:cells[k]?=some v':=p';have bb:cells[k]?=some v:=hv;rw[bb]at hk;simp only[cj.injEq]at hk;subst hk;exact hr
def aF.wT(a id c sz:Nat){cells:List AV}{rows:List (List AV)}(ho:σ.aa[id]?=some (.var cells))(ha:σ.aa[a]?=some (.arr sz rows))(hc:cells[c]?=some (.ref a sz 0 rows.length))(hw:∀ row∈rows,row.length=sz)(u7:∀ row∈rows,∀ v∈row,(∃ x,v=.lit x)\/∃ s r,v=.tree s r):aF n0 σ ⟨σ.env,(σ.aa.set a .gone).set id (.var (cells.set c (.tree sz rows)))⟩:=by
 intro os γ0 γ _ hs hf;have zz:a≠id:=by intro e;subst e;rw[ho]at ha;simp at ha
 have zA:id<σ.aa.length:=(aR.1 ho).1;have kM:a<σ.aa.length:=(aR.1 ha).1
 let az:Cx:={ γ with Z:=λb=>γ.Z b\/∃ o cap,γ.blk a=some (b,o,cap) }
 let os2:=(σ.aa.set a .gone).set id (.var (cells.set c (.tree sz rows)))
 have iU:∀ i,os2[i]?=if i=id then some (.var (cells.set c (.tree sz rows))) else if i=a then some .gone else σ.aa[i]?:=by
  intro i;show((σ.aa.set a .gone).set id _)[i]?=_;rw[bY,bY];by_cases h1:i=id
  ·subst h1;simp[zA]
  ·by_cases h2:i=a
   ·subst h2;simp[Ne.symm h1,h1,kM]
   ·simp[Ne.symm h1,Ne.symm h2,h1,h2]
 have hR:∀ v cv,aw σ.aa γ.w γ.Z γ.blk v cv->aw os2 az.w az.Z az.blk v cv:=λv cv hv =>
  hv.mono (λb hb=>⟨.inl hb,rfl⟩) (λi o hi=>by
   rw[iU];by_cases h1:i=id
   ·subst h1;rw[ho]at hi;simp only[cj.injEq]at hi;subst hi;right;exact⟨rfl,_,by rw[if_pos rfl],by simp[Ob.dT]⟩
   ·rw[if_neg h1];by_cases h2:i=a
    ·left;rw[if_pos h2]
    ·rw[if_neg h2];by_cases hg:o=.gone
     ·subst hg;exact .inl hi
     ·exact .inr ⟨rfl,o,hi,Ob.jg hg⟩)
 have bL:∀ i,Live os2 i->Live σ.aa i/\i≠a:=by
  rintro i⟨o,hi,hg⟩;rw[iU]at hi;split at hi
  ·rename_i h1;subst h1;exact⟨⟨_,ho,Iw⟩,Ne.symm zz⟩
  ·split at hi
   ·simp at hi;exact absurd hi.symm hg
   ·rename_i h2;exact⟨⟨o,hi,hg⟩,h2⟩
 have oz:Live σ.aa a:=⟨_,ha,Iw⟩;refine⟨az,rfl,rfl,⟨λk=>hR _ _ (hs.an k),?_,λi j b o c o' c' hi hj=>hs.inj i j b o c o' c' (bL i hi).1 (bL j hj).1,?_,?_,λg=>xT (hs.gl g) λb hb=>⟨.inl hb,rfl⟩⟩,?_⟩
 ·intro i o hi;have aq:os2[i]?=some o:=hi;rw[iU]at aq;split at aq
  ·rename_i h1;subst h1;simp only[cj.injEq]at aq;subst aq;obtain⟨b,cap,cur,t,h1,h2,h3,h4⟩:=hs.dF _ _ ho;refine⟨b,cap,cur,t,h1,h2,by simpa using h3,λk v hv=>?_⟩;rw[bY]at hv;split at hv
   ·rename_i e;subst e;split at hv
    ·simp only[cj.injEq]at hv;subst hv;have ee:cK σ (λx=>x≠a) (.tree sz rows) (.ref a sz 0 rows.length):=cK.flat ha hw rfl Iw u7;exact .cG _ _ (ee.zb hs (γc:=az) (λb hb=>.inl hb) rfl (λx b o cap bO _ hb=>.inr ⟨o,cap,by rw[show a=x by simpa using(Decidable.not_not.1 bO).symm];exact hb⟩) _ (h4 c _ hc))
    ·simp at hv
   ·exact hR _ _ (h4 k v hv)
  ·split at aq
   ·simp only[cj.injEq]at aq;subst aq;trivial
   ·by_cases hg:o=.gone
    ·subst hg;trivial
    ·exact(hs.dF i o aq).mono hR rfl (λ_ _ _ _=>rfl)
 ·rintro b ⟨i,o,c',hi,hb⟩ (hz|⟨o',cap,aV⟩)
  ·exact hs.nz b ⟨i,o,c',(bL i hi).1,hb⟩ hz
  ·exact(bL i hi).2 (hs.inj i a b o c' o' cap (bL i hi).1 oz hb aV)
 ·rintro b (hz|⟨o,cap,hb⟩)
  ·exact hs.gd b hz
  ·exact hs.blt oz hb
 ·refine⟨hf.kJ,hf.tape,hf.output,hf.size,hf.dV,λb hb=>.inl (hf.z0 b hb),?_,?_,by show os.length<=os2.length;simp[os2];exact hf.len,?_,hf.drawn⟩
  ·rintro b (hz|⟨o,cap,hb⟩)
   ·exact hf.z1 b hz
   ·exact .inr (hf.own b ⟨a,o,cap,oz,hb⟩)
  ·rintro b ⟨i,o,c',hi,hb⟩;exact hf.own b ⟨i,o,c',(bL i hi).1,hb⟩
  ·intro i hi hl;obtain⟨h1,x,x',hx,bS,hk⟩:=hf.dY i hi (bL i hl).1;have CP:=(bL i hl).2;have jK:Live os2 i:=hl;obtain⟨o,c9,mM⟩:=jK;refine⟨h1,x,o,hx,c9,?_⟩;rw[iU]at c9;split at c9
   ·rename_i e;subst e;rw[ho]at bS;simp only[cj.injEq]at bS c9;subst bS;subst c9;refine Ob.FR hk (by simp[Ob.dT])
   ·rw[bS]at c9;simp only[cj.injEq]at c9;subst c9;exact hk
end Go.Am
namespace Go.Am
variable {P:Program}
def ya(P:Program):List Field->Nat->Nat->Bool
 |[],o,n=>o==n
 |f::fs,o,n=>f.offset==o&&ya P fs (o+P.cellsOf f.type) n
def vr(P:Program):Nat->TypeId->Bool
 |0,_=>false
 |d+1,t =>
  match P.underlying t with
  |some (.int .i64)=>P.cellsOf t==1
  | some (.struct fs) => (P.info? t).isSome && !P.stoodInHeld t && ya P fs.toList 0 (P.cellsOf t) && fs.toList.all λf => f.name != "_" && vr P d f.type
  |_=>false
def vt(P:Program)(t:TypeId)(xs:List Int):Value :=
 match P.underlying t with
 |some (.struct _)=>.agg (xs.map (Value.int .i64)).toArray
 |_=>.int .i64 (xs.getD 0 0)
def Qx{as bs:List Int}{o c:Nat}(h:as.length=bs.length):as.drop o=bs.drop o↔(as.drop o).take c=(bs.drop o).take c/\as.drop (o+c)=bs.drop (o+c):=by
 constructor
 ·intro e;refine⟨by rw[e],?_⟩;rw[<- Ix,<- Ix,e]
 ·rintro⟨e1,e2⟩;rw[<- Ix,<- Ix]at e2;rw[<- Ip c (as.drop o),<- Ip c (bs.drop o),e1,e2]
def Qy(w:World){d:Nat}{t:TypeId}(h:vr P d t=true){as:List Int}{o:Nat}(ho:o+P.cellsOf t<=as.length):
  (part t (as.map (Value.int .i64)).toArray o).run P w=.ok (vt P t ((as.drop o).take (P.cellsOf t))) w:=by
 cases d with
 |zero=>simp[vr]at h
 |succ d =>
  unfold vr at h;cases hu:P.underlying t with
  |none=>simp[hu]at h
  |some k =>
   rw[hu]at h;cases k<;>try(simp at h;done)
   case int q =>
    cases q<;>try(simp at h;done)
    have hc:P.cellsOf t=1:=by simpa using h
    rw[hc]at ho;have hx:((as.map (Value.int .i64)).toArray)[o]?=some (.int .i64 (as.getD o 0)):=by
     have:o<as.length:=Iv;simp[this]
    simp only[part,isAgg,Sem.run_bind,run_underlying hu,Result.andThen_ok,Sem.run_pure,iS,if_false,Sem.run_ite,hx];have:o<as.length:=Iv;simp[vt,hu,hc,this]
   case struct fs =>
    simp only[aZ]at h;obtain⟨i,hi⟩:=Option.isSome_iff_exists.1 h.1.1.1;have hs:∀ w,(sizeOf t).run P w=.ok (P.cellsOf t) w:=λw=>by
     simp[sizeOf,typeInfo,Program.cellsOf,hi,run_program]
    simp only[part,isAgg,Sem.run_bind,run_underlying hu,Result.andThen_ok,Sem.run_pure,if_true,Sem.run_ite,hs];simp only[vt,hu];congr 2;simp[List.map_take,List.map_drop]
def Qz{D d:Nat}(ih:∀ t,vr P d t=true->∀ (w:World) (as bs:List Int),as.length=P.cellsOf t->bs.length=P.cellsOf t->(Op.equalIn (D+d) t (vt P t as) (vt P t bs)).run P w=.ok (decide (as=bs)) w){as bs:List Int}(hl:as.length=bs.length):
  ∀ (fs : List Field) (o : Nat) (w : World), ya P fs o as.length = true -> (fs.all λf => f.name != "_" && vr P d f.type) = true ->
   o+(fs.map λf=>P.cellsOf f.type).sum=as.length->(Op.eqFields (D+d) (as.map (Value.int .i64)).toArray (bs.map (Value.int .i64)).toArray fs).run P w=.ok (decide (as.drop o=bs.drop o)) w
 |[],o,w,ht,_,hs=>by
  have:o=as.length:=by simpa [ya] using ht
  subst this;have:bs.drop as.length=[]:=List.drop_eq_nil_of_le Iv;simp[Op.eqFields,this]
 |f::fs,o,w,ht,ha,hs=>by
  simp only[ya,aZ,beq_iff_eq]at ht;obtain⟨rfl,ht⟩:=ht;simp only[List.all_cons,aZ,bne_iff_ne]at ha;simp only[fW,List.sum_cons]at hs;have h1:=Qy (as:=as) w ha.1.2 (o:=f.offset) Iv;have h2:=Qy (as:=bs) w ha.1.2 (o:=f.offset) Iv;have h3:=ih f.type ha.1.2 w ((as.drop f.offset).take (P.cellsOf f.type)) ((bs.drop f.offset).take (P.cellsOf f.type)) NP NP;have h4:=Qz ih hl fs (f.offset+P.cellsOf f.type) w ht ha.2 Iv;simp only[Op.eqFields];rw[if_pos ha.1.1];simp only[Sem.run_bind,h1,h2,h3,Result.andThen_ok,Sem.run_ite,Sem.run_pure,h4];by_cases he:(as.drop f.offset).take (P.cellsOf f.type)=(bs.drop f.offset).take (P.cellsOf f.type)
  ·rw[decide_eq_true he];simp only[Bool.not_true,iS,if_false];congr 1;rw[decide_eq_decide,Qx (o:=f.offset) (c:=P.cellsOf f.type) hl];simp[he]
  ·rw[decide_eq_false he];simp only[Bool.not_false,if_true];congr 1;rw[eq_comm,decide_eq_false_iff_not,Qx (o:=f.offset) (c:=P.cellsOf f.type) hl];exact λh=>he h.1
def QA:∀ (fs:List Field) (o n:Nat),ya P fs o n=true->o+(fs.map λf=>P.cellsOf f.type).sum=n
 |[],o,n,h=>by simpa [ya] using h
 |f::fs,o,n,h=>by
  simp only[ya,aZ,beq_iff_eq]at h;have:=QA fs _ n h.2;simp only[fW,List.sum_cons];omega
def QB(D:Nat):∀ (d:Nat) (t:TypeId),vr P d t=true->∀ (w:World) (as bs:List Int),as.length=P.cellsOf t->bs.length=P.cellsOf t->(Op.equalIn (D+d) t (vt P t as) (vt P t bs)).run P w=.ok (decide (as=bs)) w
 |0,t,h=>by simp[vr]at h
 |d+1,t,h=>by
  intro w as bs ha hb;unfold vr at h;cases hu:P.underlying t with
  |none=>simp[hu]at h
  |some k =>
   rw[hu]at h;cases k<;>try(simp at h;done)
   case int q =>
    cases q<;>try(simp at h;done)
    have hc:P.cellsOf t=1:=by simpa using h
    rw[hc]at ha hb
    match as,bs,ha,hb with
    |[a],[b],_,_ =>
     simp only[vt,hu,List.getD_cons_zero];rw[show D+(d+1)=(D+d)+1 from rfl,run_equalIn_int w (D+d) t .i64 .i64 a b hu];congr 1;rw[nS];simp
   case struct fs =>
    simp only[aZ,Bool.not_eq_true']at h;have hf:P.fieldsOf t=fs:=by simp[Program.fieldsOf,hu]
    simp only[vt,hu];rw[show D+(d+1)=(D+d)+1 from rfl,run_equalIn_struct w (D+d) t _ _ (by rw[hf];exact hu) h.1.1.2,hf];have:=Qz (D:=D) (QB D d) (as:=as) (bs:=bs) Iv fs.toList 0 w (by rw[ha];exact h.1.2) h.2 (by rw[ha];exact QA _ _ _ h.1.2);simpa using this
def FY(P:Program)(d:Nat)(t:TypeId)(n:Nat):Bool :=
 (match P.underlying t with|some (.struct _)=>true|_=>false)&&decide (d<=10000)&&vr P d t&&(P.cellsOf t==n)
def vf.of{t:TypeId}(d:Nat){n:Nat}(h:FY P d t n=true):vf P t n:=by
 intro w as bs ha hb;simp only[FY,aZ,decide_eq_true_eq,beq_iff_eq]at h;obtain⟨⟨⟨h1,hd⟩,h2⟩,h3⟩:=h;have:=QB (10000-d) d t h2 w as bs Iv Iv;rw[Nat.sub_add_cancel hd]at this;cases hu:P.underlying t with
 |none=>rw[hu]at h1;simp at h1
 |some k =>
  cases k<;>rw[hu]at h1<;>try(simp at h1;done)
  simpa only[vt,hu] using this
end Go.Am
namespace Go.Am
variable {P:Program} {N n0:Nat} {σ:St} {Q:Exit->St->Prop}
def uj(o:Oper):Bool :=
 match o.op with
 |.call c=>match c.callee with
  |.value _=>true
  |_=>false
 |_=>false
def Bl(ops:Array Oper):List Nat:=(bn ops.size).filter λi=>match ops[i]? with|some o=>uj o|none=>false
def sJ(P:Program)(ops:Array Oper):List Oper->(St->Prop)->St->Prop
 |[],K,σ=>K σ
 |o::r,K,σ=>dX P ops (uj o) o (sJ P ops r K) σ
def QC{ops:Array Oper}{K:St->Prop}:sJ P ops [] K σ=K σ:=by simp only[sJ]
def JX{ops:Array Oper}{o:Oper}{r:List Oper}{K:St->Prop}:sJ P ops (o::r) K σ=dX P ops (uj o) o (sJ P ops r K) σ:=by simp only[sJ]
def adR{ops:Array Oper}{i:Nat}{o:Oper}(h:ops[i]?=some o):(Bl ops).contains i=uj o:=by
 have hi:i<ops.size:=(mg.1 h).1;rw[nS,uY];simp only[Bl,yT,oV,hi,true_and,h]
def JY{ops:Array Oper}{K:St->Prop}:∀ (l:List Oper) (i:Nat) (σ:St),ops.toList.drop i=l->sJ P ops l K σ->ri P ops (Bl ops) i l K σ
 |[],i,σ,_,h=>h
 |o::r,i,σ,hl,h=>by
  have hi:ops[i]?=some o:=by
   have:(ops.toList.drop i)[0]?=some o:=by rw[hl];rfl
   simpa using this
  have hr:ops.toList.drop (i+1)=r:=by
   have:=congrArg ES hl;simpa [ET] using this
  rw[FT,adR hi];rw[JX]at h;exact CB (λs hs=>JY r (i+1) s hr hs) h
def FZ(ops:Array Oper):Bool:=FU ops (Bl ops)
def adS{id:Nat}{ops:Array Oper}{y:Code}(hm:P.follows .mixedOrders=true)(hd:eU N ops=true)(ht:FZ ops=true)(h:∀ K:St->Prop,(∀ s,W P N n0 y Q s->K s)->sJ P ops ops.toList K σ):
  W P N n0 (.seq (.region id ops true) y) Q σ :=
 Qw (Bl ops) hm hd ht λK hK=>JY ops.toList 0 σ rfl (h K hK)
def adT{id:Nat}{ops:Array Oper}(hm:P.follows .mixedOrders=true)(hd:eU N ops=true)(ht:FZ ops=true)(h:∀ K:St->Prop,(∀ s,Q .normal s->K s)->sJ P ops ops.toList K σ):
  W P N n0 (.region id ops true) Q σ :=
 FV (Bl ops) hm hd ht λK hK=>JY ops.toList 0 σ rfl (h K hK)
def wU:List Oper->Bool
 |[]=>false
 |o::r=>uj o||wU r
def Bm(ops:Array Oper):List Nat:=(bn ops.size).filter λi=>match ops[i]? with|some o=>uj o&&wU (ops.toList.drop (i+1))|none=>false
def sK(P:Program)(ops:Array Oper):List Oper->(St->Prop)->St->Prop
 |[],K,σ=>K σ
 |o::r,K,σ=>dX P ops (uj o&&wU r) o (sK P ops r K) σ
def QD{ops:Array Oper}{K:St->Prop}:sK P ops [] K σ=K σ:=by simp only[sK]
def JZ{ops:Array Oper}{o:Oper}{r:List Oper}{K:St->Prop}:sK P ops (o::r) K σ=dX P ops (uj o&&wU r) o (sK P ops r K) σ:=by simp only[sK]
def adU{ops:Array Oper}{i:Nat}{o:Oper}{r:List Oper}(h:ops[i]?=some o)(hr:ops.toList.drop (i+1)=r):(Bm ops).contains i=(uj o&&wU r):=by
 have hi:i<ops.size:=(mg.1 h).1;rw[nS,uY];simp only[Bm,yT,oV,hi,true_and,h,hr]
def J0{ops:Array Oper}{K:St->Prop}:∀ (l:List Oper) (i:Nat) (σ:St),ops.toList.drop i=l->sK P ops l K σ->ri P ops (Bm ops) i l K σ
 |[],i,σ,_,h=>h
 |o::r,i,σ,hl,h=>by
  have hi:ops[i]?=some o:=by
   have:(ops.toList.drop i)[0]?=some o:=by rw[hl];rfl
   simpa using this
  have hr:ops.toList.drop (i+1)=r:=by
   have:=congrArg ES hl;simpa [ET] using this
  rw[FT,adU hi hr];rw[JZ]at h;exact CB (λs hs=>J0 r (i+1) s hr hs) h
def F1(ops:Array Oper):Bool:=FU ops (Bm ops)
def adV{id:Nat}{ops:Array Oper}{y:Code}(hm:P.follows .mixedOrders=true)(hd:eU N ops=true)(ht:F1 ops=true)(h:∀ K:St->Prop,(∀ s,W P N n0 y Q s->K s)->sK P ops ops.toList K σ):
  W P N n0 (.seq (.region id ops true) y) Q σ :=
 Qw (Bm ops) hm hd ht λK hK=>J0 ops.toList 0 σ rfl (h K hK)
def adW{id:Nat}{ops:Array Oper}(hm:P.follows .mixedOrders=true)(hd:eU N ops=true)(ht:F1 ops=true)(h:∀ K:St->Prop,(∀ s,Q .normal s->K s)->sK P ops ops.toList K σ):
  W P N n0 (.region id ops true) Q σ :=
 FV (Bm ops) hm hd ht λK hK=>J0 ops.toList 0 σ rfl (h K hK)
def Holds.empty{f:FuncId}{sz:Nat}{pre post:List AV}{aa a8:List Ob}{res:AV}(h:∀ a cap,Holds P f (pre++.lit (.slice a 0 cap)::post) aa res a8):Holds P f (pre++.tree sz []::post) aa res a8:=by
 refine⟨(h none 0).1,λγ aN hs=>?_⟩;have jc:=hs.an pre.length;have he:(pre++.tree sz []::post).getD pre.length .undef=.tree sz []:=Iw;rw[show(⟨λk=>(pre++AV.tree sz []::post).getD k .undef,aa⟩:St).env pre.length=.tree sz [] from he]at jc;obtain⟨a,cap,aP⟩:∃a cap,γ.tmps.getD pre.length Go.undef=.slice a 0 cap:=by
  generalize γ.tmps.getD pre.length Go.undef=cv at jc;have:=jc.zd;cases this with
  |nil _ cap a=>exact⟨a,cap,rfl⟩
  |tree _ _ b o cap f=>exact⟨_,cap,rfl⟩
 refine(h a cap).2 γ (by simpa using aN) ⟨λk=>?_,hs.dF,hs.inj,hs.nz,hs.gd,hs.gl⟩;by_cases hk:k=pre.length
 ·subst hk;show aw aa γ.w γ.Z γ.blk ((pre++.lit (.slice a 0 cap)::post).getD pre.length .undef) _;rw[show(pre++AV.lit (.slice a 0 cap)::post).getD pre.length .undef=.lit (.slice a 0 cap) by simp,aP];exact .lit _
 ·have:=hs.an k;show aw aa γ.w γ.Z γ.blk ((pre++.lit (.slice a 0 cap)::post).getD k .undef) _;have e:(pre++AV.lit (.slice a 0 cap)::post).getD k .undef=(pre++AV.tree sz []::post).getD k .undef:=by
   simp only[List.getD_eq_getElem?_getD];congr 1;rcases Nat.lt_or_ge k pre.length with h'|h'
   ·rw[eB h',eB h']
   ·rw[gX h',gX h'];obtain⟨j,hj⟩:∃j,k-pre.length=j+1:=⟨k-pre.length-1,Iv⟩;rw[hj];simp
  rw[e];exact this
def aF.J1(d sz:Nat){a:Option Addr}{cap:Nat}(h:σ.env d=.lit (.slice a 0 cap)):aF n0 σ ⟨jd σ.env d (.tree sz []),σ.aa⟩:=by
 intro os γ0 γ _ hs hf;refine⟨γ,rfl,rfl,⟨λk=>?_,hs.dF,hs.inj,hs.nz,hs.gd,hs.gl⟩,hf⟩;show aw σ.aa γ.w γ.Z γ.blk (jd σ.env d (.tree sz []) k) _;by_cases hk:k=d
 ·subst hk;have:=hs.an k;rw[h]at this;rw[acW,this.cy];exact .cG _ _ (.nil sz cap a)
 ·rw[jd,if_neg hk];exact hs.an k
end Go.Am

