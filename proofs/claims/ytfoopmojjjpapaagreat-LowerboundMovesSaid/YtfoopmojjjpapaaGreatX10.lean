import Derived.Test.YtfoopmojjjpapaaGreatX08
import Derived.Test.YtfoopmojjjpapaaGreatX09
import Derived.Laws.StructEq
set_option linter.all false
set_option maxHeartbeats 0
set_option maxRecDepth 20000
open List renaming all_eq_true→gH,mem_map→b8,range'→lH,tail→EV,tail_drop→EW,range→bn,range_eq_range'→uV,getElem?_eq_some_iff→aR,getElem?_eq_getElem→bT,getElem?_set→bY,getElem?_append_left→eB,drop_drop→Iz,take_append_drop→Ir,map_cons→fV,contains_iff_mem→uY,mem_filter→yV,mem_range→oV,getElem?_append_right→gX
open Bool renaming and_eq_true→aZ,false_eq_true→iS,eq_iff_iff→nS
open Option renaming some→cm
open Array renaming getElem?_eq_some_iff→mg
namespace Go.Am
variable {σ:St}
class Row {α:Type} (enc:α->List AV) (sz:outParam Nat):Prop where
 wid:∀ x,(enc x).length=sz
 ok:∀ x,∀ v∈enc x,(∃ y,v=.lit y/\y.oneCell'=true)\/∃ s r,v=.tree s r
def rowsOf{α:Type}(enc:α->List AV)(xs:List α):List (List AV):=xs.map enc
section
variable {α:Type} {enc:α->List AV} {sz:Nat}
def cf(xs:List α):(rowsOf enc xs).length=xs.length:=by simp[rowsOf]
def fS[Inhabited α](xs:List α)(i:Nat)(h:i<xs.length):(rowsOf enc xs).getD i []=enc (xs.getD i default):=by simp[rowsOf,h]
def JU[Inhabited α](xs:List α)(i:Nat)(h:i<xs.length):(rowsOf enc xs)[i]?=some (enc (xs.getD i default)):=by simp[rowsOf,h]
def Qv(xs:List α):(rowsOf enc xs).take xs.length=rowsOf enc xs:=by rw[List.take_of_length_le (by simp[rowsOf])]
def JV(xs ys:List α):rowsOf enc xs++rowsOf enc ys=rowsOf enc (xs++ys):=by simp[rowsOf]
def ox(xs:List α)(x:α):rowsOf enc xs++[enc x]=rowsOf enc (xs++[x]):=by simp[rowsOf]
def Qw(xs:List α)(i:Nat)(x:α):(rowsOf enc xs).set i (enc x)=rowsOf enc (xs.set i x):=by simp[rowsOf,List.map_set]
def Qx[Row enc sz](x:α):(enc x).all cV=true:=by
 rw[gH];intro v hv;rcases Row.ok (enc:=enc) x v hv with⟨y,rfl,h⟩|⟨s,r,rfl⟩
 ·simpa [cV] using h
 ·rfl
def JW[Row enc sz](xs:List α):((rowsOf enc xs).all λrow=>row.all cV)=true:=by
 simp only[rowsOf,List.all_map,gH];intro x _;exact Qx (enc:=enc) x
def adT{l:List AV}(h:∀ v∈l,ki v=true):lL l=true:=by
 induction l with
 |nil=>rfl
 |cons v l ih=>simp only[lL,aZ];exact⟨h v Iy,ih λx hx=>h x (by simp[hx])⟩
def adU[Row enc sz](x:α):lL (enc x)=true:=adT λv hv=>by
 rcases Row.ok (enc:=enc) x v hv with⟨y,rfl,_⟩|⟨s,r,rfl⟩<;>rfl
def vr[Row enc sz](ρ:Nat->Nat)(s:Nat)(xs:List α):bH ρ (.arr s (rowsOf enc xs))=.arr s (rowsOf enc xs):=CE (by
 intro row hr;simp only[rowsOf,b8]at hr;obtain⟨x,_,rfl⟩:=hr;exact adU (enc:=enc) x)
def my[Row enc sz](xs:List α):∀ row∈rowsOf enc xs,∀ v∈row,(∃ x,v=AV.lit x)\/∃ s r,v=AV.tree s r:=by
 intro row hr v hv;simp only[rowsOf,b8]at hr;obtain⟨x,_,rfl⟩:=hr;rcases Row.ok (enc:=enc) x v hv with⟨y,rfl,_⟩|h
 ·exact .inl ⟨_,rfl⟩
 ·exact .inr h
def ig[Row enc sz](xs:List α):∀ row∈rowsOf enc xs,row.length=sz:=by
 intro row hr;simp only[rowsOf,b8]at hr;obtain⟨x,_,rfl⟩:=hr;exact Row.wid (enc:=enc) x
end
structure cg where
 wk:Int
 day:Int
 st:Int
 len:Int
 room:Int
 ch:List (Int×Int)
 deriving Inhabited
structure Pr where
 fst:Int
 snd:Int
 dL:Int
 ax:List Int
 deriving Inhabited
structure Ld where
 cls:Int
 opt:Int
 wt:Int
 deriving Inhabited
structure Ct where
 dL:Int
 aY:List Ld
 most:Int
 bX:Int
 deriving Inhabited
structure ah where
 cls:List (List cg)
 ae:List Pr
 aC:List Ct
 rules:Int
 deriving Inhabited
def i64(n:Int):AV:=N0 n
def dm(c:Int×Int):List AV:=[N0 c.1,N0 c.2]
def b6(o:cg):List AV:=[N0 o.wk,N0 o.day,N0 o.st,N0 o.len,N0 o.room,.tree 2 (rowsOf dm o.ch)]
def aQ(l:List cg):List AV:=[.tree 6 (rowsOf b6 l)]
def aH(p:Pr):List AV:=[N0 p.fst,N0 p.snd,N0 p.dL,.tree 1 (ints p.ax)]
def qq(l:Ld):List AV:=[N0 l.cls,N0 l.opt,N0 l.wt]
def db(c:Ct):List AV:=[N0 c.dL,.tree 3 (rowsOf qq c.aY),N0 c.most,N0 c.bX]
def ao(m:ah):List AV:=[.tree 1 (rowsOf aQ m.cls),.tree 4 (rowsOf aH m.ae),.tree 4 (rowsOf db m.aC),N0 m.rules]
def zA{l:List AV}(h:(l.all λv=>match v with|.lit y=>y.oneCell'|.tree ..=>true|_=>false)=true):∀ v∈l,(∃ y,v=AV.lit y/\y.oneCell'=true)\/∃ s r,v=AV.tree s r:=by
 intro v hv;have:=gH.1 h v hv;cases v<;>simp at this
 ·exact .inl ⟨_,rfl,this⟩
 ·exact .inr ⟨_,_,rfl⟩
instance:Row dm 2:=⟨λ_=>rfl,λ_=>zA rfl⟩
instance:Row b6 6:=⟨λ_=>rfl,λ_=>zA rfl⟩
instance:Row aQ 1:=⟨λ_=>rfl,λ_=>zA rfl⟩
instance:Row aH 4:=⟨λ_=>rfl,λ_=>zA rfl⟩
instance:Row qq 3:=⟨λ_=>rfl,λ_=>zA rfl⟩
instance:Row db 4:=⟨λ_=>rfl,λ_=>zA rfl⟩
instance:Row ao 4:=⟨λ_=>rfl,λ_=>zA rfl⟩
end Go.Am
namespace Go.Am
variable {P:Program} {N n0:Nat} {σ:St} {Q:Exit->St->Prop}
def rj(P:Program)(ops:Array Oper)(qs:List Nat):Nat->List Oper->(St->Prop)->St->Prop
 |_,[],K,σ=>K σ
 |i,o::r,K,σ=>dX P ops (qs.contains i) o (rj P ops qs (i+1) r K) σ
def Qy{ops:Array Oper}{qs:List Nat}{i:Nat}{K:St->Prop}:rj P ops qs i [] K σ=K σ:=by simp only[rj]
def FY{ops:Array Oper}{qs:List Nat}{i:Nat}{o:Oper}{r:List Oper}{K:St->Prop}:rj P ops qs i (o::r) K σ=dX P ops (qs.contains i) o (rj P ops qs (i+1) r K) σ:=by simp only[rj]
def JX{ops:Array Oper}{qs:List Nat}{K:St->Prop}:∀ (l:List Oper) (i:Nat) (σ:St),ops.toList.drop i=l->rj P ops qs i l K σ->jx P ops qs (jy (lH i l.length)) K σ
 |[],i,σ,_,h=>h
 |o::r,i,σ,hl,h=>by
  have hi:ops[i]?=some o:=by
   have:(ops.toList.drop i)[0]?=some o:=by rw[hl];rfl
   simpa using this
  have hr:ops.toList.drop (i+1)=r:=by
   have:=congrArg EV hl;simpa [EW] using this
  rw[List.length_cons,List.range'_succ];show bZ P ops qs i (jx P ops qs (jy (lH (i+1) r.length)) K) σ;unfold bZ;simp only[hi];have hm:∀ s,rj P ops qs (i+1) r K s->jx P ops qs (jy (lH (i+1) r.length)) K s:=λs hs=>JX r (i+1) s hr hs;exact CD hm h
def FZ(ops:Array Oper)(qs:List Nat):Bool:=(jy (bn ops.size)).ok ops qs ops.size (Array.replicate ops.size false)
def Qz{id:Nat}{ops:Array Oper}{y:Code}(qs:List Nat)(hm:P.follows .mixedOrders=true)(hd:eU N ops=true)(ht:FZ ops qs=true)(h:∀ K:St->Prop,(∀ s,W P N n0 y Q s->K s)->rj P ops qs 0 ops.toList K σ):
  W P N n0 (.seq (.region id ops true) y) Q σ :=
 Ph qs _ hm hd ht λK hK=>by
  have:=JX (P:=P) (ops:=ops) (qs:=qs) ops.toList 0 σ rfl (h K hK);rw[uV];simpa using this
def F1{id:Nat}{ops:Array Oper}(qs:List Nat)(hm:P.follows .mixedOrders=true)(hd:eU N ops=true)(ht:FZ ops qs=true)(h:∀ K:St->Prop,(∀ s,Q .normal s->K s)->rj P ops qs 0 ops.toList K σ):
  W P N n0 (.region id ops true) Q σ :=
 nY qs _ hm hd ht (by
  have:=JX (P:=P) (ops:=ops) (qs:=qs) ops.toList 0 σ rfl (h _ (λ_ h=>h));rw[uV];simpa using this)
def b7{f:FuncId}{args:List AV}{dst:Option Tmp}{K:St->Prop}{res:AV}(h:Holds P f args [] res [])(ha:lL args=true)(hr:ki res=true)(hK:K (σ.put dst res)):IP P f args dst K σ :=
 ⟨res,h,ha,hr,hK⟩
end Go.Am
namespace Go.Am
variable {P:Program} {N n0:Nat} {σ:St} {Q:Exit->St->Prop}
def bg.JY{σ:St}{γ:Cx}(h:bg σ γ){id:Nat}{cells cells':List AV}(ho:σ.aa[id]?=some (.var cells))(hl:cells'.length=cells.length)(hc:∀ (c:Nat) v v',cells[c]?=some v->cells'[c]?=some v'->∀ cv,aw σ.aa γ.w γ.Z γ.blk v cv->aw σ.aa γ.w γ.Z γ.blk v' cv):bg ⟨σ.env,σ.aa.set id (.var cells')⟩ γ:=by
 obtain⟨b,cap,cur,t,h1,h2,h3,h4⟩:=h.dF id _ ho;have:=h.write (ob':=.var cells') ho Iy (by simp[Ob.dT,hl]) h1 (w':=γ.w) h2 (λ_ _=>rfl) rfl ⟨rfl,by rw[h3,hl],λc v hv=>?_⟩
 ·exact this
 ·have a6:c<cells.length:=by rw[<- hl];exact(aR.1 hv).1
  exact hc c _ v (bT a6) hv _ (h4 c _ (bT a6))
def Fr.JY(os:List Ob)(γ:Cx){id:Nat}{cells cells':List AV}(ho:os[id]?=some (.var cells))(hl:cells'.length=cells.length):Fr os γ (os.set id (.var cells')) γ where
 kJ:=rfl
 tape:=rfl
 output:=rfl
 size:=Nat.le_refl _
 dV:=λ_ _ _=>rfl
 z0:=λ_ h=>h
 z1:=λ_ h=>.inl h
 own:=by
  rintro b⟨i,o,c,⟨x,hx,eF⟩,hb⟩;rw[bY]at hx;split at hx
  ·rename_i e;subst e;exact .inl ⟨id,o,c,⟨_,ho,Iy⟩,hb⟩
  ·exact .inl ⟨i,o,c,⟨x,hx,eF⟩,hb⟩
 len:=Iy
 dY:=by
  rintro i hi⟨x,hx,eF⟩;have hx0:=hx;rw[bY]at hx;split at hx
  ·rename_i e;subst e;exact⟨rfl,.var cells,.var cells',ho,by rw[bY];simp[hi],by simp[Ob.dT,hl]⟩
  ·exact⟨rfl,x,x,hx,hx0,Ob.jg eF⟩
def aF.qt(id c sz:Nat){cells:List AV}(ho:σ.aa[id]?=some (.var cells))(hc:cells[c]?=some (.lit (.slice none 0 0)))(h0:0<sz):
  aF n0 σ ⟨σ.env,(σ.aa++[Ob.arr sz []]).set id (.var (cells.set c (.ref σ.aa.length sz 0 0)))⟩:=by
 intro os γ0 γ _ hs hf;have hp:=hs.zl h0;have bO:id<σ.aa.length:=(aR.1 ho).1;have cE:(σ.aa++[Ob.arr sz []])[id]?=some (.var cells):=by rw[eB bO];exact ho
 refine⟨{ γ with blk:=c6 γ.blk σ.aa.length none },rfl,rfl,?_,(hf.trans (Fr.zl _ _ _)).trans (Fr.JY _ _ cE (cells':=cells.set c (.ref σ.aa.length sz 0 0)) Iy)⟩;refine hp.JY cE (cells':=cells.set c (.ref σ.aa.length sz 0 0)) Iy (λk v v' hv qc cv hr=>?_);rw[bY]at qc;split at qc
 ·rename_i e;subst e;split at qc
  ·simp only[cm.injEq]at qc;subst qc;have hk:cells[c]?=some v:=hv;rw[hc]at hk;simp only[cm.injEq]at hk;subst hk;rw[hr.cz];exact .lR _ _ (List.getElem?_concat_length ..) (by simp[c6])
  ·simp at qc
 ·have hk:cells[k]?=some v':=qc;have bd:cells[k]?=some v:=hv;rw[bd]at hk;simp only[cm.injEq]at hk;subst hk;exact hr
def aF.wW(a id c sz:Nat){cells:List AV}{rows:List (List AV)}(ho:σ.aa[id]?=some (.var cells))(ha:σ.aa[a]?=some (.arr sz rows))(hc:cells[c]?=some (.ref a sz 0 rows.length))(hw:∀ row∈rows,row.length=sz)(u9:∀ row∈rows,∀ v∈row,(∃ x,v=.lit x)\/∃ s r,v=.tree s r):aF n0 σ ⟨σ.env,(σ.aa.set a .gone).set id (.var (cells.set c (.tree sz rows)))⟩:=by
 intro os γ0 γ _ hs hf;have zB:a≠id:=by intro e;subst e;rw[ho]at ha;simp at ha
 have zC:id<σ.aa.length:=(aR.1 ho).1;have kM:a<σ.aa.length:=(aR.1 ha).1
 let az:Cx:={ γ with Z:=λb=>γ.Z b\/∃ o cap,γ.blk a=some (b,o,cap) }
 let os2:=(σ.aa.set a .gone).set id (.var (cells.set c (.tree sz rows)))
 have iU:∀ i,os2[i]?=if i=id then some (.var (cells.set c (.tree sz rows))) else if i=a then some .gone else σ.aa[i]?:=by
  intro i;show((σ.aa.set a .gone).set id _)[i]?=_;rw[bY,bY];by_cases h1:i=id
  ·subst h1;simp[zC]
  ·by_cases h2:i=a
   ·subst h2;simp[Ne.symm h1,h1,kM]
   ·simp[Ne.symm h1,Ne.symm h2,h1,h2]
 have hR:∀ v cv,aw σ.aa γ.w γ.Z γ.blk v cv->aw os2 az.w az.Z az.blk v cv:=λv cv hv =>
  hv.mono (λb hb=>⟨.inl hb,rfl⟩) (λi o hi=>by
   rw[iU];by_cases h1:i=id
   ·subst h1;rw[ho]at hi;simp only[cm.injEq]at hi;subst hi;right;exact⟨rfl,_,by rw[if_pos rfl],by simp[Ob.dT]⟩
   ·rw[if_neg h1];by_cases h2:i=a
    ·left;rw[if_pos h2]
    ·rw[if_neg h2];by_cases hg:o=.gone
     ·subst hg;exact .inl hi
     ·exact .inr ⟨rfl,o,hi,Ob.jg hg⟩)
 have bL:∀ i,Live os2 i->Live σ.aa i/\i≠a:=by
  rintro i⟨o,hi,hg⟩;rw[iU]at hi;split at hi
  ·rename_i h1;subst h1;exact⟨⟨_,ho,Iy⟩,Ne.symm zB⟩
  ·split at hi
   ·simp at hi;exact absurd hi.symm hg
   ·rename_i h2;exact⟨⟨o,hi,hg⟩,h2⟩
 have oz:Live σ.aa a:=⟨_,ha,Iy⟩;refine⟨az,rfl,rfl,⟨λk=>hR _ _ (hs.an k),?_,λi j b o c o' c' hi hj=>hs.inj i j b o c o' c' (bL i hi).1 (bL j hj).1,?_,?_,λg=>xV (hs.gl g) λb hb=>⟨.inl hb,rfl⟩⟩,?_⟩
 ·intro i o hi;have aq:os2[i]?=some o:=hi;rw[iU]at aq;split at aq
  ·rename_i h1;subst h1;simp only[cm.injEq]at aq;subst aq;obtain⟨b,cap,cur,t,h1,h2,h3,h4⟩:=hs.dF _ _ ho;refine⟨b,cap,cur,t,h1,h2,by simpa using h3,λk v hv=>?_⟩;rw[bY]at hv;split at hv
   ·rename_i e;subst e;split at hv
    ·simp only[cm.injEq]at hv;subst hv;have ee:cL σ (λx=>x≠a) (.tree sz rows) (.ref a sz 0 rows.length):=cL.flat ha hw rfl Iy u9;exact .cG _ _ (ee.ze hs (γc:=az) (λb hb=>.inl hb) rfl (λx b o cap bO _ hb=>.inr ⟨o,cap,by rw[show a=x by simpa using(Decidable.not_not.1 bO).symm];exact hb⟩) _ (h4 c _ hc))
    ·simp at hv
   ·exact hR _ _ (h4 k v hv)
  ·split at aq
   ·simp only[cm.injEq]at aq;subst aq;trivial
   ·by_cases hg:o=.gone
    ·subst hg;trivial
    ·exact(hs.dF i o aq).mono hR rfl (λ_ _ _ _=>rfl)
 ·rintro b ⟨i,o,c',hi,hb⟩ (hz|⟨o',cap,aV⟩)
  ·exact hs.nz b ⟨i,o,c',(bL i hi).1,hb⟩ hz
  ·exact(bL i hi).2 (hs.inj i a b o c' o' cap (bL i hi).1 oz hb aV)
 ·rintro b (hz|⟨o,cap,hb⟩)
  ·exact hs.fZ b hz
  ·exact hs.blt oz hb
 ·refine⟨hf.kJ,hf.tape,hf.output,hf.size,hf.dV,λb hb=>.inl (hf.z0 b hb),?_,?_,by show os.length<=os2.length;simp[os2];exact hf.len,?_,hf.drawn⟩
  ·rintro b (hz|⟨o,cap,hb⟩)
   ·exact hf.z1 b hz
   ·exact .inr (hf.own b ⟨a,o,cap,oz,hb⟩)
  ·rintro b ⟨i,o,c',hi,hb⟩;exact hf.own b ⟨i,o,c',(bL i hi).1,hb⟩
  ·intro i hi hl;obtain⟨h1,x,x',hx,bS,hk⟩:=hf.dY i hi (bL i hl).1;have CR:=(bL i hl).2;have jJ:Live os2 i:=hl;obtain⟨o,c9,mM⟩:=jJ;refine⟨h1,x,o,hx,c9,?_⟩;rw[iU]at c9;split at c9
   ·rename_i e;subst e;rw[ho]at bS;simp only[cm.injEq]at bS c9;subst bS;subst c9;refine Ob.FV hk (by simp[Ob.dT])
   ·rw[bS]at c9;simp only[cm.injEq]at c9;subst c9;exact hk
end Go.Am
namespace Go.Am
variable {P:Program}
def yc(P:Program):List Field->Nat->Nat->Bool
 |[],o,n=>o==n
 |f::fs,o,n=>f.offset==o&&yc P fs (o+P.cellsOf f.type) n
def vt(P:Program):Nat->TypeId->Bool
 |0,_=>false
 |d+1,t =>
  match P.underlying t with
  |some (.int .i64)=>P.cellsOf t==1
  | some (.struct fs) => (P.info? t).isSome && !P.stoodInHeld t && yc P fs.toList 0 (P.cellsOf t) && fs.toList.all λf => f.name != "_" && vt P d f.type
  |_=>false
def vu(P:Program)(t:TypeId)(xs:List Int):Value :=
 match P.underlying t with
 |some (.struct _)=>.agg (xs.map (Value.int .i64)).toArray
 |_=>.int .i64 (xs.getD 0 0)
def QA{as bs:List Int}{o c:Nat}(h:as.length=bs.length):as.drop o=bs.drop o↔(as.drop o).take c=(bs.drop o).take c/\as.drop (o+c)=bs.drop (o+c):=by
 constructor
 ·intro e;refine⟨by rw[e],?_⟩;rw[<- Iz,<- Iz,e]
 ·rintro⟨e1,e2⟩;rw[<- Iz,<- Iz]at e2;rw[<- Ir c (as.drop o),<- Ir c (bs.drop o),e1,e2]
def QB(w:World){d:Nat}{t:TypeId}(h:vt P d t=true){as:List Int}{o:Nat}(ho:o+P.cellsOf t<=as.length):
  (part t (as.map (Value.int .i64)).toArray o).run P w=.ok (vu P t ((as.drop o).take (P.cellsOf t))) w:=by
 cases d with
 |zero=>simp[vt]at h
 |succ d =>
  unfold vt at h;cases hu:P.underlying t with
  |none=>simp[hu]at h
  |some k =>
   rw[hu]at h;cases k<;>try(simp at h;done)
   case int q =>
    cases q<;>try(simp at h;done)
    have hc:P.cellsOf t=1:=by simpa using h
    rw[hc]at ho;have hx:((as.map (Value.int .i64)).toArray)[o]?=some (.int .i64 (as.getD o 0)):=by
     have:o<as.length:=Ix;simp[this]
    simp only[part,isAgg,Sem.run_bind,run_underlying hu,Result.andThen_ok,Sem.run_pure,iS,if_false,Sem.run_ite,hx];have:o<as.length:=Ix;simp[vu,hu,hc,this]
   case struct fs =>
    simp only[aZ]at h;obtain⟨i,hi⟩:=Option.isSome_iff_exists.1 h.1.1.1;have hs:∀ w,(sizeOf t).run P w=.ok (P.cellsOf t) w:=λw=>by
     simp[sizeOf,typeInfo,Program.cellsOf,hi,run_program]
    simp only[part,isAgg,Sem.run_bind,run_underlying hu,Result.andThen_ok,Sem.run_pure,if_true,Sem.run_ite,hs];simp only[vu,hu];congr 2;simp[List.map_take,List.map_drop]
def QC{D d:Nat}(ih:∀ t,vt P d t=true->∀ (w:World) (as bs:List Int),as.length=P.cellsOf t->bs.length=P.cellsOf t->(Op.equalIn (D+d) t (vu P t as) (vu P t bs)).run P w=.ok (decide (as=bs)) w){as bs:List Int}(hl:as.length=bs.length):
  ∀ (fs : List Field) (o : Nat) (w : World), yc P fs o as.length = true -> (fs.all λf => f.name != "_" && vt P d f.type) = true ->
   o+(fs.map λf=>P.cellsOf f.type).sum=as.length->(Op.eqFields (D+d) (as.map (Value.int .i64)).toArray (bs.map (Value.int .i64)).toArray fs).run P w=.ok (decide (as.drop o=bs.drop o)) w
 |[],o,w,ht,_,hs=>by
  have:o=as.length:=by simpa [yc] using ht
  subst this;have:bs.drop as.length=[]:=List.drop_eq_nil_of_le Ix;simp[Op.eqFields,this]
 |f::fs,o,w,ht,ha,hs=>by
  simp only[yc,aZ,beq_iff_eq]at ht;obtain⟨rfl,ht⟩:=ht;simp only[List.all_cons,aZ,bne_iff_ne]at ha;simp only[fV,List.sum_cons]at hs;have h1:=QB (as:=as) w ha.1.2 (o:=f.offset) Ix;have h2:=QB (as:=bs) w ha.1.2 (o:=f.offset) Ix;have h3:=ih f.type ha.1.2 w ((as.drop f.offset).take (P.cellsOf f.type)) ((bs.drop f.offset).take (P.cellsOf f.type)) NS NS;have h4:=QC ih hl fs (f.offset+P.cellsOf f.type) w ht ha.2 Ix;simp only[Op.eqFields];rw[if_pos ha.1.1];simp only[Sem.run_bind,h1,h2,h3,Result.andThen_ok,Sem.run_ite,Sem.run_pure,h4];by_cases he:(as.drop f.offset).take (P.cellsOf f.type)=(bs.drop f.offset).take (P.cellsOf f.type)
  ·rw[decide_eq_true he];simp only[Bool.not_true,iS,if_false];congr 1;rw[decide_eq_decide,QA (o:=f.offset) (c:=P.cellsOf f.type) hl];simp[he]
  ·rw[decide_eq_false he];simp only[Bool.not_false,if_true];congr 1;rw[eq_comm,decide_eq_false_iff_not,QA (o:=f.offset) (c:=P.cellsOf f.type) hl];exact λh=>he h.1
def QD:∀ (fs:List Field) (o n:Nat),yc P fs o n=true->o+(fs.map λf=>P.cellsOf f.type).sum=n
 |[],o,n,h=>by simpa [yc] using h
 |f::fs,o,n,h=>by
  simp only[yc,aZ,beq_iff_eq]at h;have:=QD fs _ n h.2;simp only[fV,List.sum_cons];omega
def QF(D:Nat):∀ (d:Nat) (t:TypeId),vt P d t=true->∀ (w:World) (as bs:List Int),as.length=P.cellsOf t->bs.length=P.cellsOf t->(Op.equalIn (D+d) t (vu P t as) (vu P t bs)).run P w=.ok (decide (as=bs)) w
 |0,t,h=>by simp[vt]at h
 |d+1,t,h=>by
  intro w as bs ha hb;unfold vt at h;cases hu:P.underlying t with
  |none=>simp[hu]at h
  |some k =>
   rw[hu]at h;cases k<;>try(simp at h;done)
   case int q =>
    cases q<;>try(simp at h;done)
    have hc:P.cellsOf t=1:=by simpa using h
    rw[hc]at ha hb
    match as,bs,ha,hb with
    |[a],[b],_,_ =>
     simp only[vu,hu,List.getD_cons_zero];rw[show D+(d+1)=(D+d)+1 from rfl,run_equalIn_int w (D+d) t .i64 .i64 a b hu];congr 1;rw[nS];simp
   case struct fs =>
    simp only[aZ,Bool.not_eq_true']at h;have hf:P.fieldsOf t=fs:=by simp[Program.fieldsOf,hu]
    simp only[vu,hu];rw[show D+(d+1)=(D+d)+1 from rfl,run_equalIn_struct w (D+d) t _ _ (by rw[hf];exact hu) h.1.1.2,hf];have:=QC (D:=D) (QF D d) (as:=as) (bs:=bs) Ix fs.toList 0 w (by rw[ha];exact h.1.2) h.2 (by rw[ha];exact QD _ _ _ h.1.2);simpa using this
def F3(P:Program)(d:Nat)(t:TypeId)(n:Nat):Bool :=
 (match P.underlying t with|some (.struct _)=>true|_=>false)&&decide (d<=10000)&&vt P d t&&(P.cellsOf t==n)
def vg.of{t:TypeId}(d:Nat){n:Nat}(h:F3 P d t n=true):vg P t n:=by
 intro w as bs ha hb;simp only[F3,aZ,decide_eq_true_eq,beq_iff_eq]at h;obtain⟨⟨⟨h1,hd⟩,h2⟩,h3⟩:=h;have:=QF (10000-d) d t h2 w as bs Ix Ix;rw[Nat.sub_add_cancel hd]at this;cases hu:P.underlying t with
 |none=>rw[hu]at h1;simp at h1
 |some k =>
  cases k<;>rw[hu]at h1<;>try(simp at h1;done)
  simpa only[vu,hu] using this
end Go.Am
namespace Go.Am
variable {P:Program} {N n0:Nat} {σ:St} {Q:Exit->St->Prop}
def uj(o:Oper):Bool :=
 match o.op with
 |.call c=>match c.callee with
  |.value _=>true
  |_=>false
 |_=>false
def Bo(ops:Array Oper):List Nat:=(bn ops.size).filter λi=>match ops[i]? with|some o=>uj o|none=>false
def sK(P:Program)(ops:Array Oper):List Oper->(St->Prop)->St->Prop
 |[],K,σ=>K σ
 |o::r,K,σ=>dX P ops (uj o) o (sK P ops r K) σ
def QG{ops:Array Oper}{K:St->Prop}:sK P ops [] K σ=K σ:=by simp only[sK]
def JZ{ops:Array Oper}{o:Oper}{r:List Oper}{K:St->Prop}:sK P ops (o::r) K σ=dX P ops (uj o) o (sK P ops r K) σ:=by simp only[sK]
def adV{ops:Array Oper}{i:Nat}{o:Oper}(h:ops[i]?=some o):(Bo ops).contains i=uj o:=by
 have hi:i<ops.size:=(mg.1 h).1;rw[nS,uY];simp only[Bo,yV,oV,hi,true_and,h]
def J0{ops:Array Oper}{K:St->Prop}:∀ (l:List Oper) (i:Nat) (σ:St),ops.toList.drop i=l->sK P ops l K σ->rj P ops (Bo ops) i l K σ
 |[],i,σ,_,h=>h
 |o::r,i,σ,hl,h=>by
  have hi:ops[i]?=some o:=by
   have:(ops.toList.drop i)[0]?=some o:=by rw[hl];rfl
   simpa using this
  have hr:ops.toList.drop (i+1)=r:=by
   have:=congrArg EV hl;simpa [EW] using this
  rw[FY,adV hi];rw[JZ]at h;exact CD (λs hs=>J0 r (i+1) s hr hs) h
def F4(ops:Array Oper):Bool:=FZ ops (Bo ops)
def adW{id:Nat}{ops:Array Oper}{y:Code}(hm:P.follows .mixedOrders=true)(hd:eU N ops=true)(ht:F4 ops=true)(h:∀ K:St->Prop,(∀ s,W P N n0 y Q s->K s)->sK P ops ops.toList K σ):
  W P N n0 (.seq (.region id ops true) y) Q σ :=
 Qz (Bo ops) hm hd ht λK hK=>J0 ops.toList 0 σ rfl (h K hK)
def adX{id:Nat}{ops:Array Oper}(hm:P.follows .mixedOrders=true)(hd:eU N ops=true)(ht:F4 ops=true)(h:∀ K:St->Prop,(∀ s,Q .normal s->K s)->sK P ops ops.toList K σ):
  W P N n0 (.region id ops true) Q σ :=
 F1 (Bo ops) hm hd ht λK hK=>J0 ops.toList 0 σ rfl (h K hK)
def wX:List Oper->Bool
 |[]=>false
 |o::r=>uj o||wX r
def Bp(ops:Array Oper):List Nat:=(bn ops.size).filter λi=>match ops[i]? with|some o=>uj o&&wX (ops.toList.drop (i+1))|none=>false
def sL(P:Program)(ops:Array Oper):List Oper->(St->Prop)->St->Prop
 |[],K,σ=>K σ
 |o::r,K,σ=>dX P ops (uj o&&wX r) o (sL P ops r K) σ
def QH{ops:Array Oper}{K:St->Prop}:sL P ops [] K σ=K σ:=by simp only[sL]
def J1{ops:Array Oper}{o:Oper}{r:List Oper}{K:St->Prop}:sL P ops (o::r) K σ=dX P ops (uj o&&wX r) o (sL P ops r K) σ:=by simp only[sL]
def adY{ops:Array Oper}{i:Nat}{o:Oper}{r:List Oper}(h:ops[i]?=some o)(hr:ops.toList.drop (i+1)=r):(Bp ops).contains i=(uj o&&wX r):=by
 have hi:i<ops.size:=(mg.1 h).1;rw[nS,uY];simp only[Bp,yV,oV,hi,true_and,h,hr]
def J2{ops:Array Oper}{K:St->Prop}:∀ (l:List Oper) (i:Nat) (σ:St),ops.toList.drop i=l->sL P ops l K σ->rj P ops (Bp ops) i l K σ
 |[],i,σ,_,h=>h
 |o::r,i,σ,hl,h=>by
  have hi:ops[i]?=some o:=by
   have:(ops.toList.drop i)[0]?=some o:=by rw[hl];rfl
   simpa using this
  have hr:ops.toList.drop (i+1)=r:=by
   have:=congrArg EV hl;simpa [EW] using this
  rw[FY,adY hi hr];rw[J1]at h;exact CD (λs hs=>J2 r (i+1) s hr hs) h
def F5(ops:Array Oper):Bool:=FZ ops (Bp ops)
def adZ{id:Nat}{ops:Array Oper}{y:Code}(hm:P.follows .mixedOrders=true)(hd:eU N ops=true)(ht:F5 ops=true)(h:∀ K:St->Prop,(∀ s,W P N n0 y Q s->K s)->sL P ops ops.toList K σ):
  W P N n0 (.seq (.region id ops true) y) Q σ :=
 Qz (Bp ops) hm hd ht λK hK=>J2 ops.toList 0 σ rfl (h K hK)
def ad0{id:Nat}{ops:Array Oper}(hm:P.follows .mixedOrders=true)(hd:eU N ops=true)(ht:F5 ops=true)(h:∀ K:St->Prop,(∀ s,Q .normal s->K s)->sL P ops ops.toList K σ):
  W P N n0 (.region id ops true) Q σ :=
 F1 (Bp ops) hm hd ht λK hK=>J2 ops.toList 0 σ rfl (h K hK)
def Holds.empty{f:FuncId}{sz:Nat}{pre post:List AV}{aa a8:List Ob}{res:AV}(h:∀ a cap,Holds P f (pre++.lit (.slice a 0 cap)::post) aa res a8):Holds P f (pre++.tree sz []::post) aa res a8:=by
 refine⟨(h none 0).1,λγ aN hs=>?_⟩;have jc:=hs.an pre.length;have he:(pre++.tree sz []::post).getD pre.length .undef=.tree sz []:=Iy;rw[show(⟨λk=>(pre++AV.tree sz []::post).getD k .undef,aa⟩:St).env pre.length=.tree sz [] from he]at jc;obtain⟨a,cap,aP⟩:∃a cap,γ.tmps.getD pre.length Go.undef=.slice a 0 cap:=by
  generalize γ.tmps.getD pre.length Go.undef=cv at jc;have:=jc.zf;cases this with
  |nil _ cap a=>exact⟨a,cap,rfl⟩
  |tree _ _ b o cap f=>exact⟨_,cap,rfl⟩
 refine(h a cap).2 γ (by simpa using aN) ⟨λk=>?_,hs.dF,hs.inj,hs.nz,hs.fZ,hs.gl⟩;by_cases hk:k=pre.length
 ·subst hk;show aw aa γ.w γ.Z γ.blk ((pre++.lit (.slice a 0 cap)::post).getD pre.length .undef) _;rw[show(pre++AV.lit (.slice a 0 cap)::post).getD pre.length .undef=.lit (.slice a 0 cap) by simp,aP];exact .lit _
 ·have:=hs.an k;show aw aa γ.w γ.Z γ.blk ((pre++.lit (.slice a 0 cap)::post).getD k .undef) _;have e:(pre++AV.lit (.slice a 0 cap)::post).getD k .undef=(pre++AV.tree sz []::post).getD k .undef:=by
   simp only[List.getD_eq_getElem?_getD];congr 1;rcases Nat.lt_or_ge k pre.length with h'|h'
   ·rw[eB h',eB h']
   ·rw[gX h',gX h'];obtain⟨j,hj⟩:∃j,k-pre.length=j+1:=⟨k-pre.length-1,Ix⟩;rw[hj];simp
  rw[e];exact this
def aF.J3(d sz:Nat){a:Option Addr}{cap:Nat}(h:σ.env d=.lit (.slice a 0 cap)):aF n0 σ ⟨jd σ.env d (.tree sz []),σ.aa⟩:=by
 intro os γ0 γ _ hs hf;refine⟨γ,rfl,rfl,⟨λk=>?_,hs.dF,hs.inj,hs.nz,hs.fZ,hs.gl⟩,hf⟩;show aw σ.aa γ.w γ.Z γ.blk (jd σ.env d (.tree sz []) k) _;by_cases hk:k=d
 ·subst hk;have:=hs.an k;rw[h]at this;rw[ac0,this.cz];exact .cG _ _ (.nil sz cap a)
 ·rw[jd,if_neg hk];exact hs.an k
end Go.Am

