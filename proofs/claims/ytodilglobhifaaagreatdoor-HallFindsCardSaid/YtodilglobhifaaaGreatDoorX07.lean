import Derived.Test.YtodilglobhifaaaGreatDoorX06
set_option linter.all false
set_option maxHeartbeats 0
set_option maxRecDepth 20000
open List renaming all_eq_true→gN,mem_map→cN,getElem?_append_left→cr,range'→jJ,range_eq_range'→sB,getElem?_eq_some_iff→ba,getElem?_eq_getElem→bc,getElem?_set→cj
open Array renaming replicate→ua,getD_eq_getD_getElem?→dC,getElem?_append_left→xJ
open Nat renaming lt_or_ge→dD
open Option renaming some→dv
namespace Go.Am
variable {σ:St}
class Row {α:Type} (enc:α->List AV) (sz:outParam Nat):Prop where
 wid:∀ x,(enc x).length=sz
 ok:∀ x,∀ v∈enc x,(∃ y,v=.lit y/\y.oneCell'=true)\/∃ s r,v=.tree s r
def rowsOf{α:Type}(enc:α->List AV)(xs:List α):List (List AV):=xs.map enc
section
variable {α:Type} {enc:α->List AV} {sz:Nat}
def cH(xs:List α):(rowsOf enc xs).length=xs.length:=by simp[rowsOf]
def ia[Inhabited α](xs:List α)(i:Nat)(h:i<xs.length):(rowsOf enc xs).getD i []=enc (xs.getD i default):=by simp[rowsOf,h]
def nc[Inhabited α](xs:List α)(i:Nat)(h:i<xs.length):(rowsOf enc xs)[i]?=some (enc (xs.getD i default)):=by simp[rowsOf,h]
def Ji(xs:List α):(rowsOf enc xs).take xs.length=rowsOf enc xs:=by rw[List.take_of_length_le (by simp[rowsOf])]
def Jj(xs ys:List α):rowsOf enc xs++rowsOf enc ys=rowsOf enc (xs++ys):=by simp[rowsOf]
def jR(xs:List α)(x:α):rowsOf enc xs++[enc x]=rowsOf enc (xs++[x]):=by simp[rowsOf]
def sS(xs:List α)(i:Nat)(x:α):(rowsOf enc xs).set i (enc x)=rowsOf enc (xs.set i x):=by simp[rowsOf,List.map_set]
def SI[Row enc sz](x:α):(enc x).all bU=true:=by
 rw[gN];intro v hv;rcases Row.ok (enc:=enc) x v hv with⟨y,rfl,h⟩|⟨s,r,rfl⟩
 ·simpa [bU] using h
 ·rfl
def AZ[Row enc sz](xs:List α):((rowsOf enc xs).all λrow=>row.all bU)=true:=by
 simp only[rowsOf,List.all_map,gN];intro x _;exact SI (enc:=enc) x
def SJ{l:List AV}(h:∀ v∈l,iu v=true):jP l=true:=by
 induction l with
 |nil=>rfl
 |cons v l ih=>simp only[jP,Bool.and_eq_true];exact⟨h v Dg,ih λx hx=>h x (by simp[hx])⟩
def SK[Row enc sz](x:α):jP (enc x)=true:=SJ λv hv=>by
 rcases Row.ok (enc:=enc) x v hv with⟨y,rfl,_⟩|⟨s,r,rfl⟩<;>rfl
def we[Row enc sz](ρ:Nat->Nat)(s:Nat)(xs:List α):bu ρ (.arr s (rowsOf enc xs))=.arr s (rowsOf enc xs):=x8 (by
 intro row hr;simp only[rowsOf,cN]at hr;obtain⟨x,_,rfl⟩:=hr;exact SK (enc:=enc) x)
def jt[Row enc sz](xs:List α):∀ row∈rowsOf enc xs,∀ v∈row,(∃ x,v=AV.lit x)\/∃ s r,v=AV.tree s r:=by
 intro row hr v hv;simp only[rowsOf,cN]at hr;obtain⟨x,_,rfl⟩:=hr;rcases Row.ok (enc:=enc) x v hv with⟨y,rfl,_⟩|h
 ·exact .inl ⟨_,rfl⟩
 ·exact .inr h
def gb[Row enc sz](xs:List α):∀ row∈rowsOf enc xs,row.length=sz:=by
 intro row hr;simp only[rowsOf,cN]at hr;obtain⟨x,_,rfl⟩:=hr;exact Row.wid (enc:=enc) x
end
structure bh where
 wk:Int
 day:Int
 st:Int
 len:Int
 room:Int
 ch:List (Int×Int)
 deriving Inhabited
structure Pr where
 fst:Int
 snd:Int
 cX:Int
 bg:List Int
 deriving Inhabited
structure Ld where
 cls:Int
 opt:Int
 wt:Int
 deriving Inhabited
structure Ct where
 cX:Int
 fH:List Ld
 most:Int
 da:Int
 deriving Inhabited
structure ah where
 cls:List (List bh)
 ae:List Pr
 aL:List Ct
 rules:Int
 deriving Inhabited
def i64(n:Int):AV:=aah n
def aj(c:Int×Int):List AV:=[aah c.1,aah c.2]
def bA(o:bh):List AV:=[aah o.wk,aah o.day,aah o.st,aah o.len,aah o.room,.tree 2 (rowsOf aj o.ch)]
def bk(l:List bh):List AV:=[.tree 6 (rowsOf bA l)]
def bL(p:Pr):List AV:=[aah p.fst,aah p.snd,aah p.cX,.tree 1 (ints p.bg)]
def kD(l:Ld):List AV:=[aah l.cls,aah l.opt,aah l.wt]
def dE(c:Ct):List AV:=[aah c.cX,.tree 3 (rowsOf kD c.fH),aah c.most,aah c.da]
def aA(m:ah):List AV:=[.tree 1 (rowsOf bk m.cls),.tree 4 (rowsOf bL m.ae),.tree 4 (rowsOf dE m.aL),aah m.rules]
def uD{l:List AV}(h:(l.all λv=>match v with|.lit y=>y.oneCell'|.tree ..=>true|_=>false)=true):∀ v∈l,(∃ y,v=AV.lit y/\y.oneCell'=true)\/∃ s r,v=AV.tree s r:=by
 intro v hv;have:=gN.1 h v hv;cases v<;>simp at this
 ·exact .inl ⟨_,rfl,this⟩
 ·exact .inr ⟨_,_,rfl⟩
instance:Row aj 2:=⟨λ_=>rfl,λ_=>uD rfl⟩
instance:Row bA 6:=⟨λ_=>rfl,λ_=>uD rfl⟩
instance:Row bk 1:=⟨λ_=>rfl,λ_=>uD rfl⟩
instance:Row bL 4:=⟨λ_=>rfl,λ_=>uD rfl⟩
instance:Row kD 3:=⟨λ_=>rfl,λ_=>uD rfl⟩
instance:Row dE 4:=⟨λ_=>rfl,λ_=>uD rfl⟩
instance:Row aA 4:=⟨λ_=>rfl,λ_=>uD rfl⟩
end Go.Am
namespace Go.Am
variable {P:Program}
variable {N n0:Nat} {Q:Exit->St->Prop} {σ:St}
def gd(P:Program)(n0:Nat)(rs:List ResultVar)(eZ:AV->List Ob->Prop):Exit->St->Prop
 |.normal,s=>dN s P rs λvs=>∃ res aY,eZ res aY/\my n0 s (dO vs) res aY
 |.ret,s=>dN s P rs λvs=>∃ res aY,eZ res aY/\my n0 s (dO vs) res aY
 |_,_=>False
def eM.DP {f : FuncId} {fn : Func} {c : Code} {args : List AV} {aa : List Ob} {eZ : AV -> List Ob -> Prop} (hf : P.funcs[f]? = some fn) (hb : fn.body = some c) (lJ : (fn.name == "runtime.NumGoroutine") = false)
  (hN:args.length<=fn.ntmps) (h:W P fn.ntmps aa.length c (gd P aa.length fn.results.toList eZ) ⟨λk=>args.getD k .undef,aa⟩):eM P f args aa eZ:=by
 refine⟨⟨fn,hf,lJ,by rw[hb];rfl⟩,?_⟩;intro γ aE hs;refine calls_of_wp hf hb ?_
 let tm:=γ.tmps++ua (fn.ntmps-γ.tmps.size) Go.undef
 have aV:dM fn.ntmps aa γ ⟨λk=>args.getD k .undef,aa⟩ { tmps:=tm,defers:=[] } γ.w:=by
  refine⟨rfl,by simp[tm];omega,{ γ with tmps:=tm },rfl,rfl,⟨λk=>?_,hs.dL,hs.inj,hs.nz,hs.fG,hs.gl⟩,(Fr.refl _ _).put _⟩;rcases dD k args.length with hk|hk
  ·have:=hs.au k;have e:tm.getD k Go.undef=γ.tmps.getD k Go.undef:=by
    simp only[tm,dC];rw[xJ Ay]
   show aq _ _ _ _ _ (tm.getD k Go.undef);rw[e];exact this
  ·have e:args.getD k AV.undef=.undef:=by simp[hk]
   show aq _ _ _ _ (args.getD k .undef) _;rw[e];exact .undef _
 refine wp_mono (h aa γ _ γ.w rfl aV) ?_;rintro e a' w'⟨σ',h1,e8,_,av,rfl,ha,fS,eB⟩;have fin:∀ (K:List AV->Prop),dN σ' P fn.results.toList K->(∀ vs,K vs->∃ res aY,eZ res aY/\my aa.length σ' (dO vs) res aY) ->
   a'.defers=[]/\∃ v,(results fn a'.tmps).run P av.w=.ok v av.w/\∃ res aY cv gf,eZ res aY/\Ending.returned v=.returned cv/\gf.w=av.w/\gf.tmps = #[cv]/\aZ ⟨λk=>[res].getD k .undef,aY⟩ gf/\Fr aa γ aY gf:=by
  intro K hK DQ;obtain⟨vs,aI,k1,k2,k3,k4,k5⟩:=A0 fS _ _ hK;obtain⟨res,aY,DR,ab,snap,r1,r2,r3,r4,r5,r6,r7⟩:=DQ vs k1;refine⟨e8,?_⟩;have dF :∃v,(results fn a'.tmps).run P av.w=.ok v av.w/\aq σ'.aa av.w av.Z av.blk (dO vs) v:=by
   have hm:(fn.results.mapM λ(r:ResultVar)=>match r with|.tmp t=>(pure (a'.tmps.getD t Go.undef):Sem Value)|.cell a t=>do loadVar t (← asAddr (a'.tmps.getD a Go.undef))).run P av.w=.ok aI.toArray av.w:=by
    rw[Array.mapM_eq_mapM_toList,Sem.run_map,<- ha];exact congrArg (λ(r:Result (List Value))=>r.andThen λa w'=>Result.ok a.toArray w') k2
   have hr:(results fn a'.tmps).run P av.w=.ok (if h:aI.toArray.size=1 then aI.toArray[0] else .tuple aI.toArray) av.w:=by
    unfold results;rw[Sem.run_bind];exact congrArg (λr=>Result.andThen r λ(a:Array Value) w'=>(pure (if h:a.size=1 then a[0] else Value.tuple a):Sem Value).run P w') hm
   rw[hr]
   match vs,aI,k3,k5 with
   |[],[],_,k5=>exact⟨_,rfl,.bP _ _ rfl (λj x hj=>by simp at hj)⟩
   |[v],[cv],_,k5=>exact⟨cv,Dg,by simpa [dO] using k5 0 v rfl⟩
   |v::v'::vs,cv::lK::aI,k3,k5 =>
    refine⟨.tuple (cv::lK::aI).toArray,Dg,.bP _ _ (by simpa using k3) (λj x hj=>?_)⟩;have:=k5 j x hj;simpa [List.getD_eq_getElem?_getD,dC] using this
  obtain⟨v,nZ,qc⟩:=dF;obtain⟨gf,e1,e2,e3,e4⟩:=fS.select ab snap aY r1 r2 r3 r4 (λk=>[res].getD k .undef) #[v] (λk=>by
   cases k with
   |zero=>exact .inr ⟨_,r7,by simpa using qc⟩
   |succ k=>left;simp)
  exact⟨v,nZ,res,aY,v,gf,DR,rfl,e1,e2,e3,eB.select r5 r2 r6 e1 e4⟩
 cases e with
 |normal=>exact fin _ h1 (λ_ h=>h)
 |ret=>exact fin _ h1 (λ_ h=>h)
 |exit id=>exact h1.elim
 |goto l=>exact h1.elim
 |panic c=>exact h1.elim
 |outgrown=>exact h1.elim
theorem eM.aO {f:FuncId} {fn:Func} {c:Code} {args:List AV} {aa:List Ob} {eZ:AV -> List Ob -> Prop} (N k:Nat) (rs:List ResultVar) (hf:P.funcs[f]?=some fn) (h:W P N k c (gd P k rs eZ) ⟨fun k=>args.getD k .undef,aa⟩) (hb:fn.body=some c:=by rfl) (lJ:(fn.name=="runtime.NumGoroutine")=false:=by rfl) (hN:fn.ntmps=N:=by rfl) (yg:fn.results.toList=rs:=by rfl) (hk:aa.length=k:=by rfl) (hl:args.length<=N:=by simp):eM P f args aa eZ:=by
 subst hN;subst yg;subst hk;exact eM.DP hf hb lJ hl h
def lL(P:Program)(g:FuncId)(args:List AV)(dst:Option Tmp)(K:St->Prop)(σ:St):Prop:=DS P g args σ λv σ'=>K (σ'.put dst v)
def wc(P:Program)(o:Oper)(K:St->Prop)(σ:St):Prop :=
 o.guard=none /\
 match o.op with
 |.call { callee:=.value f,args,.. } =>
  match ev σ f with
  |.fn g bB=>lL P g (args.toList.map (ev σ)++bB) o.dst K σ
  |_=>False
 |_=>False
def Je{os:List Ob}{γ0:Cx}{o:Oper}{K:St->Prop}(h:wc P o K σ){a:Act}{w:World}(aV:dM N os γ0 σ a w)(hd:∀ d,o.dst=some d->d<N){Q:Exit->Act->World->Prop}{next:Act->World->Prop}(hn:∀ σ' a' w',K σ'->dM N os γ0 σ' a' w'->next a' w'):o.wp P a w next Q:=by
 obtain⟨e8,aE,γ,rfl,ha,hs,hf⟩:=aV;have lG:∀ d,o.dst=some d->d<a.tmps.size:=λd h=>by rw[aE];exact hd d h
 obtain⟨_,h⟩:=h;split at h
 ·rename_i f args dV cG;split at h
  ·rename_i g bB he;have fI:=mz hs ha f;rw[he]at fI;obtain⟨aI,aW,kg,iU⟩:=fI.DT;have jS:∀ (j:Nat) d,(args.toList.map (ev σ)++bB)[j]?=some d->aq σ.aa γ.w γ.Z γ.blk d (((args.map a.eval)++aI).getD j Go.undef):=by
    intro j d hj;simp only[dC];rcases dD j args.size with bw|gU
    ·rw[cr (by simpa using bw)]at hj;rw[xJ (by simpa using bw)];simp only[List.getElem?_map,Array.getElem?_toList,Array.getElem?_map]at hj ⊢;cases hx:args[j]? with
     |none=>simp[hx]at hj
     |some y=>simp[hx]at hj ⊢;subst hj;exact mz hs ha y
    ·rw[List.getElem?_append_right (by simpa using gU)]at hj;rw[Array.getElem?_append_right (by simpa using gU)];simp only[List.length_map,Array.length_toList,Array.size_map]at hj ⊢;have:=iU _ d hj;simpa [dC] using this
   unfold lL at h;have dX:=DU hs (argv:=(args.map a.eval)++aI) (by simp[kg]) jS h;obtain⟨ab,snap,cu,bn,eZ,⟨⟨fn,hfn,lJ,oX⟩,_⟩,_⟩:=h;unfold Oper.wp;have hr:(execOp a.eval o).run P γ.w=.ok (.enter g ((args.map a.eval)++aI)) γ.w:=by
    have lM : ¬ fn.name = "runtime.NumGoroutine" := by simpa using lJ
    have iV:¬ fn.body=none:=by intro e;rw[e]at oX;simp at oX
    simp[execOp,cG,resolve,aW,Deferred.ofValue,invoke,callFunc,hfn,lM,iV]
   rw[hr];show Calls P g _ _ _;refine dX.mono ?_;rintro e w'⟨cv,v,σ',av,rfl,rfl,fv,fS,eB,hv,hK,rh⟩;refine hn _ _ _ hK ⟨by rw[put_defers];exact e8,by rw[nf];exact aE,{ av with tmps:=(a.put o.dst cv).tmps },rfl,rfl,mA fS (by rw[fv,ha]) lG hv,?_⟩;rw[mB];exact(hf.trans eB).put _
  ·exact h.elim
 ·exact h.elim
def yh(ab:List Nat){f:FuncId}{args cu:List AV}{bn:List Ob}{dst:Option Tmp}{K:St->Prop}{eZ:AV->List Ob->Prop}(h:eM P f cu bn eZ)(cR:ab.Nodup)(ho:sT (bq σ.aa.length ab) σ.aa ab bn)(ha:jQ (a9 σ (·∈ab) (bq σ.aa.length ab) false) cu args)(hK:∀ res bY,eZ res bY->K (({ σ with aa:=dU σ.aa ab (bY.map (bu (bq σ.aa.length ab))) }:St).put dst (aU (bq σ.aa.length ab) res))):lL P f args dst K σ:=by
 obtain⟨h1,h2⟩:=ho.spec;obtain⟨h3,h4⟩:=ha.spec;exact⟨ab,false,cu,bn,eZ,h,⟨cR,h1,h2,h3,h4⟩,λres bY hp=>⟨Dg,hK res bY hp⟩⟩
end Go.Am
namespace Go.Am
variable {P:Program} {N n0:Nat} {σ:St} {Q:Exit->St->Prop}
def m8(P:Program)(ops:Array Oper)(qs:List Nat):Nat->List Oper->(St->Prop)->St->Prop
 |_,[],K,σ=>K σ
 |i,o::r,K,σ=>cQ P ops (qs.contains i) o (m8 P ops qs (i+1) r K) σ
def Ia{ops:Array Oper}{qs:List Nat}{i:Nat}{K:St->Prop}:m8 P ops qs i [] K σ=K σ:=by simp only[m8]
def AJ{ops:Array Oper}{qs:List Nat}{i:Nat}{o:Oper}{r:List Oper}{K:St->Prop}:m8 P ops qs i (o::r) K σ=cQ P ops (qs.contains i) o (m8 P ops qs (i+1) r K) σ:=by simp only[m8]
def DV{ops:Array Oper}{qs:List Nat}{K:St->Prop}:∀ (l:List Oper) (i:Nat) (σ:St),ops.toList.drop i=l->m8 P ops qs i l K σ->gC P ops qs (lC (jJ i l.length)) K σ
 |[],i,σ,_,h=>h
 |o::r,i,σ,hl,h=>by
  have hi:ops[i]?=some o:=by
   have:(ops.toList.drop i)[0]?=some o:=by rw[hl];rfl
   simpa using this
  have hr:ops.toList.drop (i+1)=r:=by
   have:=congrArg List.tail hl;simpa [List.tail_drop] using this
  rw[List.length_cons,List.range'_succ];show ej P ops qs i (gC P ops qs (lC (jJ (i+1) r.length)) K) σ;unfold ej;simp only[hi];have hm:∀ s,m8 P ops qs (i+1) r K s->gC P ops qs (lC (jJ (i+1) r.length)) K s:=λs hs=>DV r (i+1) s hr hs;exact x7 hm h
def AL(ops:Array Oper)(qs:List Nat):Bool:=(lC (List.range ops.size)).ok ops qs ops.size (ua ops.size false)
def HE{id:Nat}{ops:Array Oper}{y:Code}(qs:List Nat)(hm:P.follows .mixedOrders=true)(hd:eJ N ops=true)(ht:AL ops qs=true)(h:∀ K:St->Prop,(∀ s,W P N n0 y Q s->K s)->m8 P ops qs 0 ops.toList K σ):
  W P N n0 (.seq (.region id ops true) y) Q σ :=
 Jk qs _ hm hd ht λK hK=>by
  have:=DV (P:=P) (ops:=ops) (qs:=qs) ops.toList 0 σ rfl (h K hK);rw[sB];simpa using this
def AM{id:Nat}{ops:Array Oper}(qs:List Nat)(hm:P.follows .mixedOrders=true)(hd:eJ N ops=true)(ht:AL ops qs=true)(h:∀ K:St->Prop,(∀ s,Q .normal s->K s)->m8 P ops qs 0 ops.toList K σ):
  W P N n0 (.region id ops true) Q σ :=
 lN qs _ hm hd ht (by
  have:=DV (P:=P) (ops:=ops) (qs:=qs) ops.toList 0 σ rfl (h _ (λ_ h=>h));rw[sB];simpa using this)
def bC{f:FuncId}{args:List AV}{dst:Option Tmp}{K:St->Prop}{res:AV}(h:ao P f args [] res [])(ha:jP args=true)(hr:iu res=true)(hK:K (σ.put dst res)):DW P f args dst K σ :=
 ⟨res,h,ha,hr,hK⟩
end Go.Am
namespace Go.Am
variable {P:Program} {N n0:Nat} {σ:St} {Q:Exit->St->Prop}
def aZ.DX{σ:St}{γ:Cx}(h:aZ σ γ){id:Nat}{cells cells':List AV}(ho:σ.aa[id]?=some (.var cells))(hl:cells'.length=cells.length)(hc:∀ (c:Nat) v v',cells[c]?=some v->cells'[c]?=some v'->∀ cv,aq σ.aa γ.w γ.Z γ.blk v cv->aq σ.aa γ.w γ.Z γ.blk v' cv):aZ ⟨σ.env,σ.aa.set id (.var cells')⟩ γ:=by
 obtain⟨b,cap,cur,t,h1,h2,h3,h4⟩:=h.dL id _ ho;have:=h.write (ob':=.var cells') ho Dg (by simp[Ob.db,hl]) h1 (w':=γ.w) h2 (λ_ _=>rfl) rfl ⟨rfl,by rw[h3,hl],λc v hv=>?_⟩
 ·exact this
 ·have bw:c<cells.length:=by rw[<- hl];exact(ba.1 hv).1
  exact hc c _ v (bc bw) hv _ (h4 c _ (bc bw))
def Fr.DX(os:List Ob)(γ:Cx){id:Nat}{cells cells':List AV}(ho:os[id]?=some (.var cells))(hl:cells'.length=cells.length):Fr os γ (os.set id (.var cells')) γ where
 jT:=rfl
 tape:=rfl
 output:=rfl
 size:=Nat.le_refl _
 cO:=λ_ _ _=>rfl
 z0:=λ_ h=>h
 z1:=λ_ h=>.inl h
 own:=by
  rintro b⟨i,o,c,⟨x,hx,dY⟩,hb⟩;rw[cj]at hx;split at hx
  ·rename_i e;subst e;exact .inl ⟨id,o,c,⟨_,ho,Dg⟩,hb⟩
  ·exact .inl ⟨i,o,c,⟨x,hx,dY⟩,hb⟩
 len:=Dg
 iH:=by
  rintro i hi⟨x,hx,dY⟩;have hx0:=hx;rw[cj]at hx;split at hx
  ·rename_i e;subst e;exact⟨rfl,.var cells,.var cells',ho,by rw[cj];simp[hi],by simp[Ob.db,hl]⟩
  ·exact⟨rfl,x,x,hx,hx0,Ob.gV dY⟩
def aC.n5(id c sz:Nat){cells:List AV}(ho:σ.aa[id]?=some (.var cells))(hc:cells[c]?=some (.lit (.slice none 0 0)))(h0:0<sz):
  aC n0 σ ⟨σ.env,(σ.aa++[Ob.arr sz []]).set id (.var (cells.set c (.ref σ.aa.length sz 0 0)))⟩:=by
 intro os γ0 γ _ hs hf;have hp:=hs.uE h0;have cp:id<σ.aa.length:=(ba.1 ho).1;have cz:(σ.aa++[Ob.arr sz []])[id]?=some (.var cells):=by rw[cr cp];exact ho
 refine⟨{ γ with blk:=bZ γ.blk σ.aa.length none },rfl,rfl,?_,(hf.trans (Fr.uE _ _ _)).trans (Fr.DX _ _ cz (cells':=cells.set c (.ref σ.aa.length sz 0 0)) Dg)⟩;refine hp.DX cz (cells':=cells.set c (.ref σ.aa.length sz 0 0)) Dg (λk v v' hv oY cv hr=>?_);rw[cj]at oY;split at oY
 ·rename_i e;subst e;split at oY
  ·simp only[dv.injEq]at oY;subst oY;have hk:cells[c]?=some v:=hv;rw[hc]at hk;simp only[dv.injEq]at hk;subst hk;rw[hr.bQ];exact .ju _ _ (List.getElem?_concat_length ..) (by simp[bZ])
  ·simp at oY
 ·have hk:cells[k]?=some v':=oY;have aK:cells[k]?=some v:=hv;rw[aK]at hk;simp only[dv.injEq]at hk;subst hk;exact hr
def aC.qd(a id c sz:Nat){cells:List AV}{rows:List (List AV)}(ho:σ.aa[id]?=some (.var cells))(ha:σ.aa[a]?=some (.arr sz rows))(hc:cells[c]?=some (.ref a sz 0 rows.length))(hw:∀ row∈rows,row.length=sz)(sU:∀ row∈rows,∀ v∈row,(∃ x,v=.lit x)\/∃ s r,v=.tree s r):aC n0 σ ⟨σ.env,(σ.aa.set a .gone).set id (.var (cells.set c (.tree sz rows)))⟩:=by
 intro os γ0 γ _ hs hf;have SL:a≠id:=by intro e;subst e;rw[ho]at ha;simp at ha
 have uF:id<σ.aa.length:=(ba.1 ho).1;have jv:a<σ.aa.length:=(ba.1 ha).1
 let av:Cx:={ γ with Z:=λb=>γ.Z b\/∃ o cap,γ.blk a=some (b,o,cap) }
 let bR:=(σ.aa.set a .gone).set id (.var (cells.set c (.tree sz rows)))
 have gD:∀ i,bR[i]?=if i=id then some (.var (cells.set c (.tree sz rows))) else if i=a then some .gone else σ.aa[i]?:=by
  intro i;show((σ.aa.set a .gone).set id _)[i]?=_;rw[cj,cj];by_cases h1:i=id
  ·subst h1;simp[uF]
  ·by_cases h2:i=a
   ·subst h2;simp[Ne.symm h1,h1,jv]
   ·simp[Ne.symm h1,Ne.symm h2,h1,h2]
 have hR:∀ v cv,aq σ.aa γ.w γ.Z γ.blk v cv->aq bR av.w av.Z av.blk v cv:=λv cv hv =>
  hv.mono (λb hb=>⟨.inl hb,rfl⟩) (λi o hi=>by
   rw[gD];by_cases h1:i=id
   ·subst h1;rw[ho]at hi;simp only[dv.injEq]at hi;subst hi;right;exact⟨rfl,_,by rw[if_pos rfl],by simp[Ob.db]⟩
   ·rw[if_neg h1];by_cases h2:i=a
    ·left;rw[if_pos h2]
    ·rw[if_neg h2];by_cases hg:o=.gone
     ·subst hg;exact .inl hi
     ·exact .inr ⟨rfl,o,hi,Ob.gV hg⟩)
 have bx:∀ i,Live bR i->Live σ.aa i/\i≠a:=by
  rintro i⟨o,hi,hg⟩;rw[gD]at hi;split at hi
  ·rename_i h1;subst h1;exact⟨⟨_,ho,Dg⟩,Ne.symm SL⟩
  ·split at hi
   ·simp at hi;exact absurd hi.symm hg
   ·rename_i h2;exact⟨⟨o,hi,hg⟩,h2⟩
 have lO:Live σ.aa a:=⟨_,ha,Dg⟩;refine⟨av,rfl,rfl,⟨λk=>hR _ _ (hs.au k),?_,λi j b o c o' c' hi hj=>hs.inj i j b o c o' c' (bx i hi).1 (bx j hj).1,?_,?_,λg=>uG (hs.gl g) λb hb=>⟨.inl hb,rfl⟩⟩,?_⟩
 ·intro i o hi;have hi':bR[i]?=some o:=hi;rw[gD]at hi';split at hi'
  ·rename_i h1;subst h1;simp only[dv.injEq]at hi';subst hi';obtain⟨b,cap,cur,t,h1,h2,h3,h4⟩:=hs.dL _ _ ho;refine⟨b,cap,cur,t,h1,h2,by simpa using h3,λk v hv=>?_⟩;rw[cj]at hv;split at hv
   ·rename_i e;subst e;split at hv
    ·simp only[dv.injEq]at hv;subst hv;have fI:cA σ (λx=>x≠a) (.tree sz rows) (.ref a sz 0 rows.length):=cA.flat ha hw rfl Dg sU;exact .bO _ _ (fI.wg hs (γc:=av) (λb hb=>.inl hb) rfl (λx b o cap cp _ hb=>.inr ⟨o,cap,by rw[show a=x by simpa using(Decidable.not_not.1 cp).symm];exact hb⟩) _ (h4 c _ hc))
    ·simp at hv
   ·exact hR _ _ (h4 k v hv)
  ·split at hi'
   ·simp only[dv.injEq]at hi';subst hi';trivial
   ·by_cases hg:o=.gone
    ·subst hg;trivial
    ·exact(hs.dL i o hi').mono hR rfl (λ_ _ _ _=>rfl)
 ·rintro b ⟨i,o,c',hi,hb⟩ (hz|⟨o',cap,bS⟩)
  ·exact hs.nz b ⟨i,o,c',(bx i hi).1,hb⟩ hz
  ·exact(bx i hi).2 (hs.inj i a b o c' o' cap (bx i hi).1 lO hb bS)
 ·rintro b (hz|⟨o,cap,hb⟩)
  ·exact hs.fG b hz
  ·exact hs.blt lO hb
 ·refine⟨hf.jT,hf.tape,hf.output,hf.size,hf.cO,λb hb=>.inl (hf.z0 b hb),?_,?_,by show os.length<=bR.length;simp[bR];exact hf.len,?_⟩
  ·rintro b (hz|⟨o,cap,hb⟩)
   ·exact hf.z1 b hz
   ·exact .inr (hf.own b ⟨a,o,cap,lO,hb⟩)
  ·rintro b ⟨i,o,c',hi,hb⟩;exact hf.own b ⟨i,o,c',(bx i hi).1,hb⟩
  ·intro i hi hl;obtain⟨h1,x,x',hx,cd,hk⟩:=hf.iH i hi (bx i hl).1;have uH:=(bx i hl).2;have iw:Live bR i:=hl;obtain⟨o,cY,cI⟩:=iw;refine⟨h1,x,o,hx,cY,?_⟩;rw[gD]at cY;split at cY
   ·rename_i e;subst e;rw[ho]at cd;simp only[dv.injEq]at cd cY;subst cd;subst cY;refine Ob.Jl hk (by simp[Ob.db])
   ·rw[cd]at cY;simp only[dv.injEq]at cY;subst cY;exact hk
end Go.Am

