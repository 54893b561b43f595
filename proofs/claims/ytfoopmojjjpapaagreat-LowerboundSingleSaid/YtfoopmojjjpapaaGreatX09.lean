import Derived.Test.YtfoopmojjjpapaaGreatX07
import Derived.Test.YtfoopmojjjpapaaGreatX08
import Derived.Laws.StructEq
set_option linter.all false
set_option maxHeartbeats 0
set_option maxRecDepth 20000
open List renaming all_eq_true→fW,mem_map→bW,range'→mB,tail→GA,tail_drop→GC,range→bu,range_eq_range'→wv,getElem?_eq_some_iff→aV,getElem?_eq_getElem→bF,getElem?_set→bU,getElem?_append_left→eZ,drop_drop→Kh,take_append_drop→DR,map_cons→ei,contains_iff_mem→sq,mem_filter→Av,mem_range→oF,getElem?_append_right→iA
open Bool renaming and_eq_true→bb,false_eq_true→jo,eq_iff_iff→mC
open Option renaming some→cA
open Array renaming getElem?_eq_some_iff→mW
namespace Go.Am
variable {σ:St}
class Row {α:Type} (enc:α->List AV) (sz:outParam Nat):Prop where
 wid:∀ x,(enc x).length=sz
 ok:∀ x,∀ v∈enc x,(∃ y,v=.lit y/\y.oneCell'=true)\/∃ s r,v=.tree s r
def rowsOf{α:Type}(enc:α->List AV)(xs:List α):List (List AV):=xs.map enc
section
variable {α:Type} {enc:α->List AV} {sz:Nat}
def cH(xs:List α):(rowsOf enc xs).length=xs.length:=by simp[rowsOf]
def gw[Inhabited α](xs:List α)(i:Nat)(h:i<xs.length):(rowsOf enc xs).getD i []=enc (xs.getD i default):=by simp[rowsOf,h]
def SA[Inhabited α](xs:List α)(i:Nat)(h:i<xs.length):(rowsOf enc xs)[i]?=some (enc (xs.getD i default)):=by simp[rowsOf,h]
def SD(xs:List α):(rowsOf enc xs).take xs.length=rowsOf enc xs:=by rw[List.take_of_length_le (by simp[rowsOf])]
def LQ(xs ys:List α):rowsOf enc xs++rowsOf enc ys=rowsOf enc (xs++ys):=by simp[rowsOf]
def pE(xs:List α)(x:α):rowsOf enc xs++[enc x]=rowsOf enc (xs++[x]):=by simp[rowsOf]
def SE(xs:List α)(i:Nat)(x:α):(rowsOf enc xs).set i (enc x)=rowsOf enc (xs.set i x):=by simp[rowsOf,List.map_set]
def SF[Row enc sz](x:α):(enc x).all c8=true:=by
 rw[fW];intro v hv;rcases Row.ok (enc:=enc) x v hv with⟨y,rfl,h⟩|⟨s,r,rfl⟩
 ·simpa [c8] using h
 ·rfl
def LS[Row enc sz](xs:List α):((rowsOf enc xs).all λrow=>row.all c8)=true:=by
 simp only[rowsOf,List.all_map,fW];intro x _;exact SF (enc:=enc) x
def af5{l:List AV}(h:∀ v∈l,kZ v=true):mH l=true:=by
 induction l with
 |nil=>rfl
 |cons v l ih=>simp only[mH,bb];exact⟨h v GM,ih λx hx=>h x (by simp[hx])⟩
def af6[Row enc sz](x:α):mH (enc x)=true:=af5 λv hv=>by
 rcases Row.ok (enc:=enc) x v hv with⟨y,rfl,_⟩|⟨s,r,rfl⟩<;>rfl
def wR[Row enc sz](ρ:Nat->Nat)(s:Nat)(xs:List α):bM ρ (.arr s (rowsOf enc xs))=.arr s (rowsOf enc xs):=D9 (by
 intro row hr;simp only[rowsOf,bW]at hr;obtain⟨x,_,rfl⟩:=hr;exact af6 (enc:=enc) x)
def oS[Row enc sz](xs:List α):∀ row∈rowsOf enc xs,∀ v∈row,(∃ x,v=AV.lit x)\/∃ s r,v=AV.tree s r:=by
 intro row hr v hv;simp only[rowsOf,bW]at hr;obtain⟨x,_,rfl⟩:=hr;rcases Row.ok (enc:=enc) x v hv with⟨y,rfl,_⟩|h
 ·exact .inl ⟨_,rfl⟩
 ·exact .inr h
def jd[Row enc sz](xs:List α):∀ row∈rowsOf enc xs,row.length=sz:=by
 intro row hr;simp only[rowsOf,bW]at hr;obtain⟨x,_,rfl⟩:=hr;exact Row.wid (enc:=enc) x
end
structure cz where
 wk:Int
 day:Int
 st:Int
 len:Int
 room:Int
 ch:List (Int×Int)
 deriving Inhabited
structure Pr where
 fst:Int
 snd:Int
 ee:Int
 ay:List Int
 deriving Inhabited
structure Ld where
 cls:Int
 opt:Int
 wt:Int
 deriving Inhabited
structure Ct where
 ee:Int
 bh:List Ld
 most:Int
 cf:Int
 deriving Inhabited
structure ah where
 cls:List (List cz)
 ae:List Pr
 aD:List Ct
 rules:Int
 deriving Inhabited
def i64(n:Int):AV:=Qf n
def bd(c:Int×Int):List AV:=[Qf c.1,Qf c.2]
def cp(o:cz):List AV:=[Qf o.wk,Qf o.day,Qf o.st,Qf o.len,Qf o.room,.tree 2 (rowsOf bd o.ch)]
def aW(l:List cz):List AV:=[.tree 6 (rowsOf cp l)]
def aI(p:Pr):List AV:=[Qf p.fst,Qf p.snd,Qf p.ee,.tree 1 (ints p.ay)]
def rz(l:Ld):List AV:=[Qf l.cls,Qf l.opt,Qf l.wt]
def dv(c:Ct):List AV:=[Qf c.ee,.tree 3 (rowsOf rz c.bh),Qf c.most,Qf c.cf]
def an(m:ah):List AV:=[.tree 1 (rowsOf aW m.cls),.tree 4 (rowsOf aI m.ae),.tree 4 (rowsOf dv m.aD),Qf m.rules]
def A8{l:List AV}(h:(l.all λv=>match v with|.lit y=>y.oneCell'|.tree ..=>true|_=>false)=true):∀ v∈l,(∃ y,v=AV.lit y/\y.oneCell'=true)\/∃ s r,v=AV.tree s r:=by
 intro v hv;have:=fW.1 h v hv;cases v<;>simp at this
 ·exact .inl ⟨_,rfl,this⟩
 ·exact .inr ⟨_,_,rfl⟩
instance:Row bd 2:=⟨λ_=>rfl,λ_=>A8 rfl⟩
instance:Row cp 6:=⟨λ_=>rfl,λ_=>A8 rfl⟩
instance:Row aW 1:=⟨λ_=>rfl,λ_=>A8 rfl⟩
instance:Row aI 4:=⟨λ_=>rfl,λ_=>A8 rfl⟩
instance:Row rz 3:=⟨λ_=>rfl,λ_=>A8 rfl⟩
instance:Row dv 4:=⟨λ_=>rfl,λ_=>A8 rfl⟩
instance:Row an 4:=⟨λ_=>rfl,λ_=>A8 rfl⟩
end Go.Am
namespace Go.Am
variable {P:Program} {N n0:Nat} {σ:St} {Q:Exit->St->Prop}
def sS(P:Program)(ops:Array Oper)(qs:List Nat):Nat->List Oper->(St->Prop)->St->Prop
 |_,[],K,σ=>K σ
 |i,o::r,K,σ=>er P ops (qs.contains i) o (sS P ops qs (i+1) r K) σ
def SG{ops:Array Oper}{qs:List Nat}{i:Nat}{K:St->Prop}:sS P ops qs i [] K σ=K σ:=by simp only[sS]
def HG{ops:Array Oper}{qs:List Nat}{i:Nat}{o:Oper}{r:List Oper}{K:St->Prop}:sS P ops qs i (o::r) K σ=er P ops (qs.contains i) o (sS P ops qs (i+1) r K) σ:=by simp only[sS]
def LU{ops:Array Oper}{qs:List Nat}{K:St->Prop}:∀ (l:List Oper) (i:Nat) (σ:St),ops.toList.drop i=l->sS P ops qs i l K σ->jW P ops qs (jX (mB i l.length)) K σ
 |[],i,σ,_,h=>h
 |o::r,i,σ,hl,h=>by
  have hi:ops[i]?=some o:=by
   have:(ops.toList.drop i)[0]?=some o:=by rw[hl];rfl
   simpa using this
  have hr:ops.toList.drop (i+1)=r:=by
   have:=congrArg GA hl;simpa [GC] using this
  rw[List.length_cons,List.range'_succ];show cj P ops qs i (jW P ops qs (jX (mB (i+1) r.length)) K) σ;unfold cj;simp only[hi];have hm:∀ s,sS P ops qs (i+1) r K s->jW P ops qs (jX (mB (i+1) r.length)) K s:=λs hs=>LU r (i+1) s hr hs;exact D8 hm h
def HH(ops:Array Oper)(qs:List Nat):Bool:=(jX (bu ops.size)).ok ops qs ops.size (Array.replicate ops.size false)
def SH{id:Nat}{ops:Array Oper}{y:Code}(qs:List Nat)(hm:P.follows .mixedOrders=true)(hd:fq N ops=true)(ht:HH ops qs=true)(h:∀ K:St->Prop,(∀ s,W P N n0 y Q s->K s)->sS P ops qs 0 ops.toList K σ):
  W P N n0 (.seq (.region id ops true) y) Q σ :=
 Rv qs _ hm hd ht λK hK=>by
  have:=LU (P:=P) (ops:=ops) (qs:=qs) ops.toList 0 σ rfl (h K hK);rw[wv];simpa using this
def HI{id:Nat}{ops:Array Oper}(qs:List Nat)(hm:P.follows .mixedOrders=true)(hd:fq N ops=true)(ht:HH ops qs=true)(h:∀ K:St->Prop,(∀ s,Q .normal s->K s)->sS P ops qs 0 ops.toList K σ):
  W P N n0 (.region id ops true) Q σ :=
 pw qs _ hm hd ht (by
  have:=LU (P:=P) (ops:=ops) (qs:=qs) ops.toList 0 σ rfl (h _ (λ_ h=>h));rw[wv];simpa using this)
def cu{f:FuncId}{args:List AV}{dst:Option Tmp}{K:St->Prop}{res:AV}(h:Holds P f args [] res [])(ha:mH args=true)(hr:kZ res=true)(hK:K (σ.put dst res)):KA P f args dst K σ :=
 ⟨res,h,ha,hr,hK⟩
end Go.Am
namespace Go.Am
variable {P:Program} {N n0:Nat} {σ:St} {Q:Exit->St->Prop}
def bx.LV{σ:St}{γ:Cx}(h:bx σ γ){id:Nat}{cells cells':List AV}(ho:σ.aa[id]?=some (.var cells))(hl:cells'.length=cells.length)(hc:∀ (c:Nat) v v',cells[c]?=some v->cells'[c]?=some v'->∀ cv,aw σ.aa γ.w γ.Z γ.blk v cv->aw σ.aa γ.w γ.Z γ.blk v' cv):bx ⟨σ.env,σ.aa.set id (.var cells')⟩ γ:=by
 obtain⟨b,cap,cur,t,h1,h2,h3,h4⟩:=h.dT id _ ho;have:=h.write (ob':=.var cells') ho GM (by simp[Ob.ej,hl]) h1 (w':=γ.w) h2 (λ_ _=>rfl) rfl ⟨rfl,by rw[h3,hl],λc v hv=>?_⟩
 ·exact this
 ·have aX:c<cells.length:=by rw[<- hl];exact(aV.1 hv).1
  exact hc c _ v (bF aX) hv _ (h4 c _ (bF aX))
def Fr.LV(os:List Ob)(γ:Cx){id:Nat}{cells cells':List AV}(ho:os[id]?=some (.var cells))(hl:cells'.length=cells.length):Fr os γ (os.set id (.var cells')) γ where
 lF:=rfl
 tape:=rfl
 output:=rfl
 size:=Nat.le_refl _
 ek:=λ_ _ _=>rfl
 z0:=λ_ h=>h
 z1:=λ_ h=>.inl h
 own:=by
  rintro b⟨i,o,c,⟨x,hx,eS⟩,hb⟩;rw[bU]at hx;split at hx
  ·rename_i e;subst e;exact .inl ⟨id,o,c,⟨_,ho,GM⟩,hb⟩
  ·exact .inl ⟨i,o,c,⟨x,hx,eS⟩,hb⟩
 len:=GM
 eA:=by
  rintro i hi⟨x,hx,eS⟩;have hx0:=hx;rw[bU]at hx;split at hx
  ·rename_i e;subst e;exact⟨rfl,.var cells,.var cells',ho,by rw[bU];simp[hi],by simp[Ob.ej,hl]⟩
  ·exact⟨rfl,x,x,hx,hx0,Ob.jK eS⟩
def aH.rA(id c sz:Nat){cells:List AV}(ho:σ.aa[id]?=some (.var cells))(hc:cells[c]?=some (.lit (.slice none 0 0)))(h0:0<sz):
  aH n0 σ ⟨σ.env,(σ.aa++[Ob.arr sz []]).set id (.var (cells.set c (.ref σ.aa.length sz 0 0)))⟩:=by
 intro os γ0 γ _ hs hf;have hp:=hs.AT h0;have bX:id<σ.aa.length:=(aV.1 ho).1;have cm:(σ.aa++[Ob.arr sz []])[id]?=some (.var cells):=by rw[eZ bX];exact ho
 refine⟨{ γ with blk:=df γ.blk σ.aa.length none },rfl,rfl,?_,(hf.trans (Fr.AT _ _ _)).trans (Fr.LV _ _ cm (cells':=cells.set c (.ref σ.aa.length sz 0 0)) GM)⟩;refine hp.LV cm (cells':=cells.set c (.ref σ.aa.length sz 0 0)) GM (λk v v' hv vj cv hr=>?_);rw[bU]at vj;split at vj
 ·rename_i e;subst e;split at vj
  ·simp only[cA.injEq]at vj;subst vj;have hk:cells[c]?=some v:=hv;rw[hc]at hk;simp only[cA.injEq]at hk;subst hk;rw[hr.cF];exact .mK _ _ (List.getElem?_concat_length ..) (by simp[df])
  ·simp at vj
 ·have hk:cells[k]?=some v':=vj;have bz:cells[k]?=some v:=hv;rw[bz]at hk;simp only[cA.injEq]at hk;subst hk;exact hr
def aH.yg(a id c sz:Nat){cells:List AV}{rows:List (List AV)}(ho:σ.aa[id]?=some (.var cells))(ha:σ.aa[a]?=some (.arr sz rows))(hc:cells[c]?=some (.ref a sz 0 rows.length))(hw:∀ row∈rows,row.length=sz)(wH:∀ row∈rows,∀ v∈row,(∃ x,v=.lit x)\/∃ s r,v=.tree s r):aH n0 σ ⟨σ.env,(σ.aa.set a .gone).set id (.var (cells.set c (.tree sz rows)))⟩:=by
 intro os γ0 γ _ hs hf;have A9:a≠id:=by intro e;subst e;rw[ho]at ha;simp at ha
 have Ba:id<σ.aa.length:=(aV.1 ho).1;have lI:a<σ.aa.length:=(aV.1 ha).1
 let aA:Cx:={ γ with Z:=λb=>γ.Z b\/∃ o cap,γ.blk a=some (b,o,cap) }
 let os2:=(σ.aa.set a .gone).set id (.var (cells.set c (.tree sz rows)))
 have jt:∀ i,os2[i]?=if i=id then some (.var (cells.set c (.tree sz rows))) else if i=a then some .gone else σ.aa[i]?:=by
  intro i;show((σ.aa.set a .gone).set id _)[i]?=_;rw[bU,bU];by_cases h1:i=id
  ·subst h1;simp[Ba]
  ·by_cases h2:i=a
   ·subst h2;simp[Ne.symm h1,h1,lI]
   ·simp[Ne.symm h1,Ne.symm h2,h1,h2]
 have hR:∀ v cv,aw σ.aa γ.w γ.Z γ.blk v cv->aw os2 aA.w aA.Z aA.blk v cv:=λv cv hv =>
  hv.mono (λb hb=>⟨.inl hb,rfl⟩) (λi o hi=>by
   rw[jt];by_cases h1:i=id
   ·subst h1;rw[ho]at hi;simp only[cA.injEq]at hi;subst hi;right;exact⟨rfl,_,by rw[if_pos rfl],by simp[Ob.ej]⟩
   ·rw[if_neg h1];by_cases h2:i=a
    ·left;rw[if_pos h2]
    ·rw[if_neg h2];by_cases hg:o=.gone
     ·subst hg;exact .inl hi
     ·exact .inr ⟨rfl,o,hi,Ob.jK hg⟩)
 have bS:∀ i,Live os2 i->Live σ.aa i/\i≠a:=by
  rintro i⟨o,hi,hg⟩;rw[jt]at hi;split at hi
  ·rename_i h1;subst h1;exact⟨⟨_,ho,GM⟩,Ne.symm A9⟩
  ·split at hi
   ·simp at hi;exact absurd hi.symm hg
   ·rename_i h2;exact⟨⟨o,hi,hg⟩,h2⟩
 have pF:Live σ.aa a:=⟨_,ha,GM⟩;refine⟨aA,rfl,rfl,⟨λk=>hR _ _ (hs.ao k),?_,λi j b o c o' c' hi hj=>hs.inj i j b o c o' c' (bS i hi).1 (bS j hj).1,?_,?_,λg=>zm (hs.gl g) λb hb=>⟨.inl hb,rfl⟩⟩,?_⟩
 ·intro i o hi;have ar:os2[i]?=some o:=hi;rw[jt]at ar;split at ar
  ·rename_i h1;subst h1;simp only[cA.injEq]at ar;subst ar;obtain⟨b,cap,cur,t,h1,h2,h3,h4⟩:=hs.dT _ _ ho;refine⟨b,cap,cur,t,h1,h2,by simpa using h3,λk v hv=>?_⟩;rw[bU]at hv;split at hv
   ·rename_i e;subst e;split at hv
    ·simp only[cA.injEq]at hv;subst hv;have dU:cQ σ (λx=>x≠a) (.tree sz rows) (.ref a sz 0 rows.length):=cQ.flat ha hw rfl GM wH;exact .cO _ _ (dU.AM hs (γc:=aA) (λb hb=>.inl hb) rfl (λx b o cap bX _ hb=>.inr ⟨o,cap,by rw[show a=x by simpa using(Decidable.not_not.1 bX).symm];exact hb⟩) _ (h4 c _ hc))
    ·simp at hv
   ·exact hR _ _ (h4 k v hv)
  ·split at ar
   ·simp only[cA.injEq]at ar;subst ar;trivial
   ·by_cases hg:o=.gone
    ·subst hg;trivial
    ·exact(hs.dT i o ar).mono hR rfl (λ_ _ _ _=>rfl)
 ·rintro b ⟨i,o,c',hi,hb⟩ (hz|⟨o',cap,a6⟩)
  ·exact hs.nz b ⟨i,o,c',(bS i hi).1,hb⟩ hz
  ·exact(bS i hi).2 (hs.inj i a b o c' o' cap (bS i hi).1 pF hb a6)
 ·rintro b (hz|⟨o,cap,hb⟩)
  ·exact hs.gG b hz
  ·exact hs.blt pF hb
 ·refine⟨hf.lF,hf.tape,hf.output,hf.size,hf.ek,λb hb=>.inl (hf.z0 b hb),?_,?_,by show os.length<=os2.length;simp[os2];exact hf.len,?_,hf.drawn⟩
  ·rintro b (hz|⟨o,cap,hb⟩)
   ·exact hf.z1 b hz
   ·exact .inr (hf.own b ⟨a,o,cap,pF,hb⟩)
  ·rintro b ⟨i,o,c',hi,hb⟩;exact hf.own b ⟨i,o,c',(bS i hi).1,hb⟩
  ·intro i hi hl;obtain⟨h1,x,x',hx,b6,hk⟩:=hf.eA i hi (bS i hl).1;have Ek:=(bS i hl).2;have kf:Live os2 i:=hl;obtain⟨o,dt,nR⟩:=kf;refine⟨h1,x,o,hx,dt,?_⟩;rw[jt]at dt;split at dt
   ·rename_i e;subst e;rw[ho]at b6;simp only[cA.injEq]at b6 dt;subst b6;subst dt;refine Ob.HF hk (by simp[Ob.ej])
   ·rw[b6]at dt;simp only[cA.injEq]at dt;subst dt;exact hk
end Go.Am
namespace Go.Am
variable {P:Program}
def zz(P:Program):List Field->Nat->Nat->Bool
 |[],o,n=>o==n
 |f::fs,o,n=>f.offset==o&&zz P fs (o+P.cellsOf f.type) n
def wS(P:Program):Nat->TypeId->Bool
 |0,_=>false
 |d+1,t =>
  match P.underlying t with
  |some (.int .i64)=>P.cellsOf t==1
  | some (.struct fs) => (P.info? t).isSome && !P.stoodInHeld t && zz P fs.toList 0 (P.cellsOf t) && fs.toList.all λf => f.name != "_" && wS P d f.type
  |_=>false
def wT(P:Program)(t:TypeId)(xs:List Int):Value :=
 match P.underlying t with
 |some (.struct _)=>.agg (xs.map (Value.int .i64)).toArray
 |_=>.int .i64 (xs.getD 0 0)
def SI{as bs:List Int}{o c:Nat}(h:as.length=bs.length):as.drop o=bs.drop o↔(as.drop o).take c=(bs.drop o).take c/\as.drop (o+c)=bs.drop (o+c):=by
 constructor
 ·intro e;refine⟨by rw[e],?_⟩;rw[<- Kh,<- Kh,e]
 ·rintro⟨e1,e2⟩;rw[<- Kh,<- Kh]at e2;rw[<- DR c (as.drop o),<- DR c (bs.drop o),e1,e2]
def SJ(w:World){d:Nat}{t:TypeId}(h:wS P d t=true){as:List Int}{o:Nat}(ho:o+P.cellsOf t<=as.length):
  (part t (as.map (Value.int .i64)).toArray o).run P w=.ok (wT P t ((as.drop o).take (P.cellsOf t))) w:=by
 cases d with
 |zero=>simp[wS]at h
 |succ d =>
  unfold wS at h;cases hu:P.underlying t with
  |none=>simp[hu]at h
  |some k =>
   rw[hu]at h;cases k<;>try(simp at h;done)
   case int q =>
    cases q<;>try(simp at h;done)
    have hc:P.cellsOf t=1:=by simpa using h
    rw[hc]at ho;have hx:((as.map (Value.int .i64)).toArray)[o]?=some (.int .i64 (as.getD o 0)):=by
     have:o<as.length:=GK;simp[this]
    simp only[part,isAgg,Sem.run_bind,run_underlying hu,Result.andThen_ok,Sem.run_pure,jo,if_false,Sem.run_ite,hx];have:o<as.length:=GK;simp[wT,hu,hc,this]
   case struct fs =>
    simp only[bb]at h;obtain⟨i,hi⟩:=Option.isSome_iff_exists.1 h.1.1.1;have hs:∀ w,(sizeOf t).run P w=.ok (P.cellsOf t) w:=λw=>by
     simp[sizeOf,typeInfo,Program.cellsOf,hi,run_program]
    simp only[part,isAgg,Sem.run_bind,run_underlying hu,Result.andThen_ok,Sem.run_pure,if_true,Sem.run_ite,hs];simp only[wT,hu];congr 2;simp[List.map_take,List.map_drop]
def SK{D d:Nat}(ih:∀ t,wS P d t=true->∀ (w:World) (as bs:List Int),as.length=P.cellsOf t->bs.length=P.cellsOf t->(Op.equalIn (D+d) t (wT P t as) (wT P t bs)).run P w=.ok (decide (as=bs)) w){as bs:List Int}(hl:as.length=bs.length):
  ∀ (fs : List Field) (o : Nat) (w : World), zz P fs o as.length = true -> (fs.all λf => f.name != "_" && wS P d f.type) = true ->
   o+(fs.map λf=>P.cellsOf f.type).sum=as.length->(Op.eqFields (D+d) (as.map (Value.int .i64)).toArray (bs.map (Value.int .i64)).toArray fs).run P w=.ok (decide (as.drop o=bs.drop o)) w
 |[],o,w,ht,_,hs=>by
  have:o=as.length:=by simpa [zz] using ht
  subst this;have:bs.drop as.length=[]:=List.drop_eq_nil_of_le GK;simp[Op.eqFields,this]
 |f::fs,o,w,ht,ha,hs=>by
  simp only[zz,bb,beq_iff_eq]at ht;obtain⟨rfl,ht⟩:=ht;simp only[List.all_cons,bb,bne_iff_ne]at ha;simp only[ei,List.sum_cons]at hs;have h1:=SJ (as:=as) w ha.1.2 (o:=f.offset) GK;have h2:=SJ (as:=bs) w ha.1.2 (o:=f.offset) GK;have h3:=ih f.type ha.1.2 w ((as.drop f.offset).take (P.cellsOf f.type)) ((bs.drop f.offset).take (P.cellsOf f.type)) P2 P2;have h4:=SK ih hl fs (f.offset+P.cellsOf f.type) w ht ha.2 GK;simp only[Op.eqFields];rw[if_pos ha.1.1];simp only[Sem.run_bind,h1,h2,h3,Result.andThen_ok,Sem.run_ite,Sem.run_pure,h4];by_cases he:(as.drop f.offset).take (P.cellsOf f.type)=(bs.drop f.offset).take (P.cellsOf f.type)
  ·rw[decide_eq_true he];simp only[Bool.not_true,jo,if_false];congr 1;rw[decide_eq_decide,SI (o:=f.offset) (c:=P.cellsOf f.type) hl];simp[he]
  ·rw[decide_eq_false he];simp only[Bool.not_false,if_true];congr 1;rw[eq_comm,decide_eq_false_iff_not,SI (o:=f.offset) (c:=P.cellsOf f.type) hl];exact λh=>he h.1
def SL:∀ (fs:List Field) (o n:Nat),zz P fs o n=true->o+(fs.map λf=>P.cellsOf f.type).sum=n
 |[],o,n,h=>by simpa [zz] using h
 |f::fs,o,n,h=>by
  simp only[zz,bb,beq_iff_eq]at h;have:=SL fs _ n h.2;simp only[ei,List.sum_cons];omega
def SM(D:Nat):∀ (d:Nat) (t:TypeId),wS P d t=true->∀ (w:World) (as bs:List Int),as.length=P.cellsOf t->bs.length=P.cellsOf t->(Op.equalIn (D+d) t (wT P t as) (wT P t bs)).run P w=.ok (decide (as=bs)) w
 |0,t,h=>by simp[wS]at h
 |d+1,t,h=>by
  intro w as bs ha hb;unfold wS at h;cases hu:P.underlying t with
  |none=>simp[hu]at h
  |some k =>
   rw[hu]at h;cases k<;>try(simp at h;done)
   case int q =>
    cases q<;>try(simp at h;done)
    have hc:P.cellsOf t=1:=by simpa using h
    rw[hc]at ha hb
    match as,bs,ha,hb with
    |[a],[b],_,_ =>
     simp only[wT,hu,List.getD_cons_zero];rw[show D+(d+1)=(D+d)+1 from rfl,run_equalIn_int w (D+d) t .i64 .i64 a b hu];congr 1;rw[mC];simp
   case struct fs =>
    simp only[bb,Bool.not_eq_true']at h;have hf:P.fieldsOf t=fs:=by simp[Program.fieldsOf,hu]
    simp only[wT,hu];rw[show D+(d+1)=(D+d)+1 from rfl,run_equalIn_struct w (D+d) t _ _ (by rw[hf];exact hu) h.1.1.2,hf];have:=SK (D:=D) (SM D d) (as:=as) (bs:=bs) GK fs.toList 0 w (by rw[ha];exact h.1.2) h.2 (by rw[ha];exact SL _ _ _ h.1.2);simpa using this
def HJ(P:Program)(d:Nat)(t:TypeId)(n:Nat):Bool :=
 (match P.underlying t with|some (.struct _)=>true|_=>false)&&decide (d<=10000)&&wS P d t&&(P.cellsOf t==n)
def wM.of{t:TypeId}(d:Nat){n:Nat}(h:HJ P d t n=true):wM P t n:=by
 intro w as bs ha hb;simp only[HJ,bb,decide_eq_true_eq,beq_iff_eq]at h;obtain⟨⟨⟨h1,hd⟩,h2⟩,h3⟩:=h;have:=SM (10000-d) d t h2 w as bs GK GK;rw[Nat.sub_add_cancel hd]at this;cases hu:P.underlying t with
 |none=>rw[hu]at h1;simp at h1
 |some k =>
  cases k<;>rw[hu]at h1<;>try(simp at h1;done)
  simpa only[wT,hu] using this
end Go.Am
namespace Go.Am
variable {P:Program} {N n0:Nat} {σ:St} {Q:Exit->St->Prop}
def vB(o:Oper):Bool :=
 match o.op with
 |.call c=>match c.callee with
  |.value _=>true
  |_=>false
 |_=>false
def CO(ops:Array Oper):List Nat:=(bu ops.size).filter λi=>match ops[i]? with|some o=>vB o|none=>false
def ug(P:Program)(ops:Array Oper):List Oper->(St->Prop)->St->Prop
 |[],K,σ=>K σ
 |o::r,K,σ=>er P ops (vB o) o (ug P ops r K) σ
def SN{ops:Array Oper}{K:St->Prop}:ug P ops [] K σ=K σ:=by simp only[ug]
def LW{ops:Array Oper}{o:Oper}{r:List Oper}{K:St->Prop}:ug P ops (o::r) K σ=er P ops (vB o) o (ug P ops r K) σ:=by simp only[ug]
def af7{ops:Array Oper}{i:Nat}{o:Oper}(h:ops[i]?=some o):(CO ops).contains i=vB o:=by
 have hi:i<ops.size:=(mW.1 h).1;rw[mC,sq];simp only[CO,Av,oF,hi,true_and,h]
def LX{ops:Array Oper}{K:St->Prop}:∀ (l:List Oper) (i:Nat) (σ:St),ops.toList.drop i=l->ug P ops l K σ->sS P ops (CO ops) i l K σ
 |[],i,σ,_,h=>h
 |o::r,i,σ,hl,h=>by
  have hi:ops[i]?=some o:=by
   have:(ops.toList.drop i)[0]?=some o:=by rw[hl];rfl
   simpa using this
  have hr:ops.toList.drop (i+1)=r:=by
   have:=congrArg GA hl;simpa [GC] using this
  rw[HG,af7 hi];rw[LW]at h;exact D8 (λs hs=>LX r (i+1) s hr hs) h
def HK(ops:Array Oper):Bool:=HH ops (CO ops)
def af8{id:Nat}{ops:Array Oper}{y:Code}(hm:P.follows .mixedOrders=true)(hd:fq N ops=true)(ht:HK ops=true)(h:∀ K:St->Prop,(∀ s,W P N n0 y Q s->K s)->ug P ops ops.toList K σ):
  W P N n0 (.seq (.region id ops true) y) Q σ :=
 SH (CO ops) hm hd ht λK hK=>LX ops.toList 0 σ rfl (h K hK)
def af9{id:Nat}{ops:Array Oper}(hm:P.follows .mixedOrders=true)(hd:fq N ops=true)(ht:HK ops=true)(h:∀ K:St->Prop,(∀ s,Q .normal s->K s)->ug P ops ops.toList K σ):
  W P N n0 (.region id ops true) Q σ :=
 HI (CO ops) hm hd ht λK hK=>LX ops.toList 0 σ rfl (h K hK)
def yh:List Oper->Bool
 |[]=>false
 |o::r=>vB o||yh r
def CP(ops:Array Oper):List Nat:=(bu ops.size).filter λi=>match ops[i]? with|some o=>vB o&&yh (ops.toList.drop (i+1))|none=>false
def uh(P:Program)(ops:Array Oper):List Oper->(St->Prop)->St->Prop
 |[],K,σ=>K σ
 |o::r,K,σ=>er P ops (vB o&&yh r) o (uh P ops r K) σ
def SO{ops:Array Oper}{K:St->Prop}:uh P ops [] K σ=K σ:=by simp only[uh]
def LY{ops:Array Oper}{o:Oper}{r:List Oper}{K:St->Prop}:uh P ops (o::r) K σ=er P ops (vB o&&yh r) o (uh P ops r K) σ:=by simp only[uh]
def af'{ops:Array Oper}{i:Nat}{o:Oper}{r:List Oper}(h:ops[i]?=some o)(hr:ops.toList.drop (i+1)=r):(CP ops).contains i=(vB o&&yh r):=by
 have hi:i<ops.size:=(mW.1 h).1;rw[mC,sq];simp only[CP,Av,oF,hi,true_and,h,hr]
def LZ{ops:Array Oper}{K:St->Prop}:∀ (l:List Oper) (i:Nat) (σ:St),ops.toList.drop i=l->uh P ops l K σ->sS P ops (CP ops) i l K σ
 |[],i,σ,_,h=>h
 |o::r,i,σ,hl,h=>by
  have hi:ops[i]?=some o:=by
   have:(ops.toList.drop i)[0]?=some o:=by rw[hl];rfl
   simpa using this
  have hr:ops.toList.drop (i+1)=r:=by
   have:=congrArg GA hl;simpa [GC] using this
  rw[HG,af' hi hr];rw[LY]at h;exact D8 (λs hs=>LZ r (i+1) s hr hs) h
def HL(ops:Array Oper):Bool:=HH ops (CP ops)
def aga{id:Nat}{ops:Array Oper}{y:Code}(hm:P.follows .mixedOrders=true)(hd:fq N ops=true)(ht:HL ops=true)(h:∀ K:St->Prop,(∀ s,W P N n0 y Q s->K s)->uh P ops ops.toList K σ):
  W P N n0 (.seq (.region id ops true) y) Q σ :=
 SH (CP ops) hm hd ht λK hK=>LZ ops.toList 0 σ rfl (h K hK)
def agb{id:Nat}{ops:Array Oper}(hm:P.follows .mixedOrders=true)(hd:fq N ops=true)(ht:HL ops=true)(h:∀ K:St->Prop,(∀ s,Q .normal s->K s)->uh P ops ops.toList K σ):
  W P N n0 (.region id ops true) Q σ :=
 HI (CP ops) hm hd ht λK hK=>LZ ops.toList 0 σ rfl (h K hK)
def Holds.empty{f:FuncId}{sz:Nat}{pre post:List AV}{aa bn:List Ob}{res:AV}(h:∀ a cap,Holds P f (pre++.lit (.slice a 0 cap)::post) aa res bn):Holds P f (pre++.tree sz []::post) aa res bn:=by
 refine⟨(h none 0).1,λγ aP hs=>?_⟩;have jG:=hs.ao pre.length;have he:(pre++.tree sz []::post).getD pre.length .undef=.tree sz []:=GM;rw[show(⟨λk=>(pre++AV.tree sz []::post).getD k .undef,aa⟩:St).env pre.length=.tree sz [] from he]at jG;obtain⟨a,cap,aT⟩:∃a cap,γ.tmps.getD pre.length Go.undef=.slice a 0 cap:=by
  generalize γ.tmps.getD pre.length Go.undef=cv at jG;have:=jG.AN;cases this with
  |nil _ cap a=>exact⟨a,cap,rfl⟩
  |tree _ _ b o cap f=>exact⟨_,cap,rfl⟩
 refine(h a cap).2 γ (by simpa using aP) ⟨λk=>?_,hs.dT,hs.inj,hs.nz,hs.gG,hs.gl⟩;by_cases hk:k=pre.length
 ·subst hk;show aw aa γ.w γ.Z γ.blk ((pre++.lit (.slice a 0 cap)::post).getD pre.length .undef) _;rw[show(pre++AV.lit (.slice a 0 cap)::post).getD pre.length .undef=.lit (.slice a 0 cap) by simp,aT];exact .lit _
 ·have:=hs.ao k;show aw aa γ.w γ.Z γ.blk ((pre++.lit (.slice a 0 cap)::post).getD k .undef) _;have e:(pre++AV.lit (.slice a 0 cap)::post).getD k .undef=(pre++AV.tree sz []::post).getD k .undef:=by
   simp only[List.getD_eq_getElem?_getD];congr 1;rcases Nat.lt_or_ge k pre.length with h'|h'
   ·rw[eZ h',eZ h']
   ·rw[iA h',iA h'];obtain⟨j,hj⟩:∃j,k-pre.length=j+1:=⟨k-pre.length-1,GK⟩;rw[hj];simp
  rw[e];exact this
def aH.L1(d sz:Nat){a:Option Addr}{cap:Nat}(h:σ.env d=.lit (.slice a 0 cap)):aH n0 σ ⟨jH σ.env d (.tree sz []),σ.aa⟩:=by
 intro os γ0 γ _ hs hf;refine⟨γ,rfl,rfl,⟨λk=>?_,hs.dT,hs.inj,hs.nz,hs.gG,hs.gl⟩,hf⟩;show aw σ.aa γ.w γ.Z γ.blk (jH σ.env d (.tree sz []) k) _;by_cases hk:k=d
 ·subst hk;have:=hs.ao k;rw[h]at this;rw[afe,this.cF];exact .cO _ _ (.nil sz cap a)
 ·rw[jH,if_neg hk];exact hs.ao k
end Go.Am

