import Derived.Test.YtodilglobhifaaaDoorX06
import Derived.Laws.StructEq
set_option linter.all false
set_option maxHeartbeats 0
set_option maxRecDepth 20000
open List renaming all_eq_true→gx,mem_map→bS,getElem?_append_left→bL,range'→g8,tail→z5,tail_drop→z6,range→bj,range_eq_range'→pD,getElem?_eq_some_iff→aF,getElem?_eq_getElem→aN,getElem?_set→bM,drop_drop→DW,take_append_drop→DX,map_cons→km,contains_iff_mem→oh,mem_filter→fI,mem_range→jM
open Bool renaming and_eq_true→bb,false_eq_true→iQ,eq_iff_iff→jL
open Array renaming replicate→ux,getD_eq_getD_getElem?→cT,getElem?_append_left→uy,getElem?_eq_some_iff→jJ
open Nat renaming lt_or_ge→cZ
open Option renaming some→cB
namespace Go.Am
variable {σ:St}
class Row {α:Type} (enc:α->List AV) (sz:outParam Nat):Prop where
 wid:∀ x,(enc x).length=sz
 ok:∀ x,∀ v∈enc x,(∃ y,v=.lit y/\y.oneCell'=true)\/∃ s r,v=.tree s r
def rowsOf{α:Type}(enc:α->List AV)(xs:List α):List (List AV):=xs.map enc
section
variable {α:Type} {enc:α->List AV} {sz:Nat}
def cL(xs:List α):(rowsOf enc xs).length=xs.length:=by simp[rowsOf]
def fL[Inhabited α](xs:List α)(i:Nat)(h:i<xs.length):(rowsOf enc xs).getD i []=enc (xs.getD i default):=by simp[rowsOf,h]
def q9[Inhabited α](xs:List α)(i:Nat)(h:i<xs.length):(rowsOf enc xs)[i]?=some (enc (xs.getD i default)):=by simp[rowsOf,h]
def E9(xs:List α):(rowsOf enc xs).take xs.length=rowsOf enc xs:=by rw[List.take_of_length_le (by simp[rowsOf])]
def E'(xs ys:List α):rowsOf enc xs++rowsOf enc ys=rowsOf enc (xs++ys):=by simp[rowsOf]
def xE(xs:List α)(i:Nat)(x:α):(rowsOf enc xs).set i (enc x)=rowsOf enc (xs.set i x):=by simp[rowsOf,List.map_set]
def Nc[Row enc sz](x:α):(enc x).all bt=true:=by
 rw[gx];intro v hv;rcases Row.ok (enc:=enc) x v hv with⟨y,rfl,h⟩|⟨s,r,rfl⟩
 ·simpa [bt] using h
 ·rfl
def Fa[Row enc sz](xs:List α):((rowsOf enc xs).all λrow=>row.all bt)=true:=by
 simp only[rowsOf,List.all_map,gx];intro x _;exact Nc (enc:=enc) x
def Nf{l:List AV}(h:∀ v∈l,gK v=true):iT l=true:=by
 induction l with
 |nil=>rfl
 |cons v l ih=>simp only[iT,bb];exact⟨h v Eb,ih λx hx=>h x (by simp[hx])⟩
def Ng[Row enc sz](x:α):iT (enc x)=true:=Nf λv hv=>by
 rcases Row.ok (enc:=enc) x v hv with⟨y,rfl,_⟩|⟨s,r,rfl⟩<;>rfl
def sW[Row enc sz](ρ:Nat->Nat)(s:Nat)(xs:List α):bf ρ (.arr s (rowsOf enc xs))=.arr s (rowsOf enc xs):=xF (by
 intro row hr;simp only[rowsOf,bS]at hr;obtain⟨x,_,rfl⟩:=hr;exact Ng (enc:=enc) x)
def xC[Row enc sz](xs:List α):∀ row∈rowsOf enc xs,∀ v∈row,(∃ x,v=AV.lit x)\/∃ s r,v=AV.tree s r:=by
 intro row hr v hv;simp only[rowsOf,bS]at hr;obtain⟨x,_,rfl⟩:=hr;rcases Row.ok (enc:=enc) x v hv with⟨y,rfl,_⟩|h
 ·exact .inl ⟨_,rfl⟩
 ·exact .inr h
def pL[Row enc sz](xs:List α):∀ row∈rowsOf enc xs,row.length=sz:=by
 intro row hr;simp only[rowsOf,bS]at hr;obtain⟨x,_,rfl⟩:=hr;exact Row.wid (enc:=enc) x
end
structure cD where
 wk:Int
 day:Int
 st:Int
 len:Int
 room:Int
 ch:List (Int×Int)
 deriving Inhabited
structure Pr where
 fst:Int
 snd:Int
 cM:Int
 dw:List Int
 deriving Inhabited
structure Ld where
 cls:Int
 opt:Int
 wt:Int
 deriving Inhabited
structure Ct where
 cM:Int
 ei:List Ld
 most:Int
 gd:Int
 deriving Inhabited
structure ae where
 cls:List (List cD)
 aj:List Pr
 cz:List Ct
 rules:Int
 deriving Inhabited
def i64(n:Int):AV:=UX n
def au(c:Int×Int):List AV:=[UX c.1,UX c.2]
def cf(o:cD):List AV:=[UX o.wk,UX o.day,UX o.st,UX o.len,UX o.room,.tree 2 (rowsOf au o.ch)]
def cu(l:List cD):List AV:=[.tree 6 (rowsOf cf l)]
def bV(p:Pr):List AV:=[UX p.fst,UX p.snd,UX p.cM,.tree 1 (ints p.dw)]
def uL(l:Ld):List AV:=[UX l.cls,UX l.opt,UX l.wt]
def gy(c:Ct):List AV:=[UX c.cM,.tree 3 (rowsOf uL c.ei),UX c.most,UX c.gd]
def aP(m:ae):List AV:=[.tree 1 (rowsOf cu m.cls),.tree 4 (rowsOf bV m.aj),.tree 4 (rowsOf gy m.cz),UX m.rules]
def pN{l:List AV}(h:(l.all λv=>match v with|.lit y=>y.oneCell'|.tree ..=>true|_=>false)=true):∀ v∈l,(∃ y,v=AV.lit y/\y.oneCell'=true)\/∃ s r,v=AV.tree s r:=by
 intro v hv;have:=gx.1 h v hv;cases v<;>simp at this
 ·exact .inl ⟨_,rfl,this⟩
 ·exact .inr ⟨_,_,rfl⟩
instance:Row au 2:=⟨λ_=>rfl,λ_=>pN rfl⟩
instance:Row cf 6:=⟨λ_=>rfl,λ_=>pN rfl⟩
instance:Row cu 1:=⟨λ_=>rfl,λ_=>pN rfl⟩
instance:Row bV 4:=⟨λ_=>rfl,λ_=>pN rfl⟩
instance:Row uL 3:=⟨λ_=>rfl,λ_=>pN rfl⟩
instance:Row gy 4:=⟨λ_=>rfl,λ_=>pN rfl⟩
instance:Row aP 4:=⟨λ_=>rfl,λ_=>pN rfl⟩
end Go.Am
namespace Go.Am
variable {P:Program}
variable {N n0:Nat} {Q:Exit->St->Prop} {σ:St}
def pO(P:Program)(n0:Nat)(rs:List ResultVar)(ej:AV->List Ob->Prop):Exit->St->Prop
 |.normal,s=>gL s P rs λvs=>∃ res aL,ej res aL/\jV n0 s (ic vs) res aL
 |.ret,s=>gL s P rs λvs=>∃ res aL,ej res aL/\jV n0 s (ic vs) res aL
 |_,_=>False
def fX.Ay {f : FuncId} {fn : Func} {c : Code} {args : List AV} {aa : List Ob} {ej : AV -> List Ob -> Prop} (hf : P.funcs[f]? = some fn) (hb : fn.body = some c) (jW : (fn.name == "runtime.NumGoroutine") = false)
  (hN:args.length<=fn.ntmps) (h:W P fn.ntmps aa.length c (pO P aa.length fn.results.toList ej) ⟨λk=>args.getD k .undef,aa⟩):fX P f args aa ej:=by
 refine⟨⟨fn,hf,jW,by rw[hb];rfl⟩,?_⟩;intro γ ay hs;refine calls_of_wp hf hb ?_
 let tm:=γ.tmps++ux (fn.ntmps-γ.tmps.size) Go.undef
 have aT:dx fn.ntmps aa γ ⟨λk=>args.getD k .undef,aa⟩ { tmps:=tm,defers:=[] } γ.w:=by
  refine⟨rfl,by simp[tm];omega,{ γ with tmps:=tm },rfl,rfl,⟨λk=>?_,hs.c9,hs.inj,hs.nz,hs.eF,hs.gl⟩,(Fr.refl _ _).put _⟩;rcases cZ k args.length with hk|hk
  ·have:=hs.ax k;have e:tm.getD k Go.undef=γ.tmps.getD k Go.undef:=by
    simp only[tm,cT];rw[uy z8]
   show ah _ _ _ _ _ (tm.getD k Go.undef);rw[e];exact this
  ·have e:args.getD k AV.undef=.undef:=by simp[hk]
   show ah _ _ _ _ (args.getD k .undef) _;rw[e];exact .undef _
 refine wp_mono (h aa γ _ γ.w rfl aT) ?_;rintro e a' w'⟨σ',h1,dR,_,ak,rfl,ha,fq,dq⟩;have fin:∀ (K:List AV->Prop),gL σ' P fn.results.toList K->(∀ vs,K vs->∃ res aL,ej res aL/\jV aa.length σ' (ic vs) res aL) ->
   a'.defers=[]/\∃ v,(results fn a'.tmps).run P ak.w=.ok v ak.w/\∃ res aL cv eK,ej res aL/\Ending.returned v=.returned cv/\eK.w=ak.w/\eK.tmps = #[cv]/\aK ⟨λk=>[res].getD k .undef,aL⟩ eK/\Fr aa γ aL eK:=by
  intro K hK Az;obtain⟨vs,aB,k1,k2,k3,k4,k5⟩:=xG fq _ _ hK;obtain⟨res,aL,AA,ab,snap,r1,r2,r3,r4,r5,r6,r7⟩:=Az vs k1;refine⟨dR,?_⟩;have cN :∃v,(results fn a'.tmps).run P ak.w=.ok v ak.w/\ah σ'.aa ak.w ak.Z ak.blk (ic vs) v:=by
   have hm:(fn.results.mapM λ(r:ResultVar)=>match r with|.tmp t=>(pure (a'.tmps.getD t Go.undef):Sem Value)|.cell a t=>do loadVar t (← asAddr (a'.tmps.getD a Go.undef))).run P ak.w=.ok aB.toArray ak.w:=by
    rw[Array.mapM_eq_mapM_toList,Sem.run_map,<- ha];exact congrArg (λ(r:Result (List Value))=>r.andThen λa w'=>Result.ok a.toArray w') k2
   have hr:(results fn a'.tmps).run P ak.w=.ok (if h:aB.toArray.size=1 then aB.toArray[0] else .tuple aB.toArray) ak.w:=by
    unfold results;rw[Sem.run_bind];exact congrArg (λr=>Result.andThen r λ(a:Array Value) w'=>(pure (if h:a.size=1 then a[0] else Value.tuple a):Sem Value).run P w') hm
   rw[hr]
   match vs,aB,k3,k5 with
   |[],[],_,k5=>exact⟨_,rfl,.bA _ _ rfl (λj x hj=>by simp at hj)⟩
   |[v],[cv],_,k5=>exact⟨cv,Eb,by simpa [ic] using k5 0 v rfl⟩
   |v::v'::vs,cv::jX::aB,k3,k5 =>
    refine⟨.tuple (cv::jX::aB).toArray,Eb,.bA _ _ (by simpa using k3) (λj x hj=>?_)⟩;have:=k5 j x hj;simpa [List.getD_eq_getElem?_getD,cT] using this
  obtain⟨v,AB,AD⟩:=cN;obtain⟨eK,e1,e2,e3,e4⟩:=fq.select ab snap aL r1 r2 r3 r4 (λk=>[res].getD k .undef) #[v] (λk=>by
   cases k with
   |zero=>exact .inr ⟨_,r7,by simpa using AD⟩
   |succ k=>left;simp)
  exact⟨v,AB,res,aL,v,eK,AA,rfl,e1,e2,e3,dq.select r5 r2 r6 e1 e4⟩
 cases e with
 |normal=>exact fin _ h1 (λ_ h=>h)
 |ret=>exact fin _ h1 (λ_ h=>h)
 |exit id=>exact h1.elim
 |goto l=>exact h1.elim
 |panic c=>exact h1.elim
 |outgrown=>exact h1.elim
theorem fX.aX {f:FuncId} {fn:Func} {c:Code} {args:List AV} {aa:List Ob} {ej:AV -> List Ob -> Prop} (N k:Nat) (rs:List ResultVar) (hf:P.funcs[f]?=some fn) (h:W P N k c (pO P k rs ej) ⟨fun k=>args.getD k .undef,aa⟩) (hb:fn.body=some c:=by rfl) (jW:(fn.name=="runtime.NumGoroutine")=false:=by rfl) (hN:fn.ntmps=N:=by rfl) (kY:fn.results.toList=rs:=by rfl) (hk:aa.length=k:=by rfl) (hl:args.length<=N:=by simp):fX P f args aa ej:=by
 subst hN;subst kY;subst hk;exact fX.Ay hf hb jW hl h
def my(P:Program)(g:FuncId)(args:List AV)(dst:Option Tmp)(K:St->Prop)(σ:St):Prop:=AE P g args σ λv σ'=>K (σ'.put dst v)
def sV(P:Program)(o:Oper)(K:St->Prop)(σ:St):Prop :=
 o.guard=none /\
 match o.op with
 |.call { callee:=.value f,args,.. } =>
  match ev σ f with
  |.fn g bC=>my P g (args.toList.map (ev σ)++bC) o.dst K σ
  |_=>False
 |_=>False
def E1{os:List Ob}{γ0:Cx}{o:Oper}{K:St->Prop}(h:sV P o K σ){a:Act}{w:World}(aT:dx N os γ0 σ a w)(hd:∀ d,o.dst=some d->d<N){Q:Exit->Act->World->Prop}{next:Act->World->Prop}(hn:∀ σ' a' w',K σ'->dx N os γ0 σ' a' w'->next a' w'):o.wp P a w next Q:=by
 obtain⟨dR,ay,γ,rfl,ha,hs,hf⟩:=aT;have kZ:∀ d,o.dst=some d->d<a.tmps.size:=λd h=>by rw[ay];exact hd d h
 obtain⟨_,h⟩:=h;split at h
 ·rename_i f args gM dI;split at h
  ·rename_i g bC he;have eu:=kv hs ha f;rw[he]at eu;obtain⟨aB,aD,iD,oC⟩:=eu.AF;have ig:∀ (j:Nat) d,(args.toList.map (ev σ)++bC)[j]?=some d->ah σ.aa γ.w γ.Z γ.blk d (((args.map a.eval)++aB).getD j Go.undef):=by
    intro j d hj;simp only[cT];rcases cZ j args.size with aZ|gN
    ·rw[bL (by simpa using aZ)]at hj;rw[uy (by simpa using aZ)];simp only[List.getElem?_map,Array.getElem?_toList,Array.getElem?_map]at hj ⊢;cases hx:args[j]? with
     |none=>simp[hx]at hj
     |some y=>simp[hx]at hj ⊢;subst hj;exact kv hs ha y
    ·rw[List.getElem?_append_right (by simpa using gN)]at hj;rw[Array.getElem?_append_right (by simpa using gN)];simp only[List.length_map,Array.length_toList,Array.size_map]at hj ⊢;have:=oC _ d hj;simpa [cT] using this
   unfold my at h;have dX:=AG hs (argv:=(args.map a.eval)++aB) (by simp[iD]) ig h;obtain⟨ab,snap,cE,aV,ej,⟨⟨fn,hfn,jW,mz⟩,_⟩,_⟩:=h;unfold Oper.wp;have hr:(execOp a.eval o).run P γ.w=.ok (.enter g ((args.map a.eval)++aB)) γ.w:=by
    have kx : ¬ fn.name = "runtime.NumGoroutine" := by simpa using jW
    have iU:¬ fn.body=none:=by intro e;rw[e]at mz;simp at mz
    simp[execOp,dI,resolve,aD,Deferred.ofValue,invoke,callFunc,hfn,kx,iU]
   rw[hr];show Calls P g _ _ _;refine dX.mono ?_;rintro e w'⟨cv,v,σ',ak,rfl,rfl,eL,fq,dq,hv,hK,oD⟩;refine hn _ _ _ hK ⟨by rw[put_defers];exact dR,by rw[k6];exact ay,{ ak with tmps:=(a.put o.dst cv).tmps },rfl,rfl,ky fq (by rw[eL,ha]) kZ hv,?_⟩;rw[kz];exact(hf.trans dq).put _
  ·exact h.elim
 ·exact h.elim
def Nh(ab:List Nat){f:FuncId}{args cE:List AV}{aV:List Ob}{dst:Option Tmp}{K:St->Prop}{ej:AV->List Ob->Prop}(h:fX P f cE aV ej)(cm:ab.Nodup)(ho:pP (a9 σ.aa.length ab) σ.aa ab aV)(ha:kA (bd σ (·∈ab) (a9 σ.aa.length ab) false) cE args)(hK:∀ res bD,ej res bD->K (({ σ with aa:=dv σ.aa ab (bD.map (bf (a9 σ.aa.length ab))) }:St).put dst (aG (a9 σ.aa.length ab) res))):my P f args dst K σ:=by
 obtain⟨h1,h2⟩:=ho.spec;obtain⟨h3,h4⟩:=ha.spec;exact⟨ab,false,cE,aV,ej,h,⟨cm,h1,h2,h3,h4⟩,λres bD hp=>⟨Eb,hK res bD hp⟩⟩
end Go.Am
namespace Go.Am
variable {P:Program} {N n0:Nat} {σ:St} {Q:Exit->St->Prop}
def kX(P:Program)(ops:Array Oper)(qs:List Nat):Nat->List Oper->(St->Prop)->St->Prop
 |_,[],K,σ=>K σ
 |i,o::r,K,σ=>dm P ops (qs.contains i) o (kX P ops qs (i+1) r K) σ
def EN{ops:Array Oper}{qs:List Nat}{i:Nat}{K:St->Prop}:kX P ops qs i [] K σ=K σ:=by simp only[kX]
def xw{ops:Array Oper}{qs:List Nat}{i:Nat}{o:Oper}{r:List Oper}{K:St->Prop}:kX P ops qs i (o::r) K σ=dm P ops (qs.contains i) o (kX P ops qs (i+1) r K) σ:=by simp only[kX]
def AH{ops:Array Oper}{qs:List Nat}{K:St->Prop}:∀ (l:List Oper) (i:Nat) (σ:St),ops.toList.drop i=l->kX P ops qs i l K σ->e9 P ops qs (jP (g8 i l.length)) K σ
 |[],i,σ,_,h=>h
 |o::r,i,σ,hl,h=>by
  have hi:ops[i]?=some o:=by
   have:(ops.toList.drop i)[0]?=some o:=by rw[hl];rfl
   simpa using this
  have hr:ops.toList.drop (i+1)=r:=by
   have:=congrArg z5 hl;simpa [z6] using this
  rw[List.length_cons,List.range'_succ];show dS P ops qs i (e9 P ops qs (jP (g8 (i+1) r.length)) K) σ;unfold dS;simp only[hi];have hm:∀ s,kX P ops qs (i+1) r K s->e9 P ops qs (jP (g8 (i+1) r.length)) K s:=λs hs=>AH r (i+1) s hr hs;exact uQ hm h
def xH(ops:Array Oper)(qs:List Nat):Bool:=(jP (bj ops.size)).ok ops qs ops.size (ux ops.size false)
def Fb{id:Nat}{ops:Array Oper}{y:Code}(qs:List Nat)(hm:P.follows .mixedOrders=true)(hd:dQ N ops=true)(ht:xH ops qs=true)(h:∀ K:St->Prop,(∀ s,W P N n0 y Q s->K s)->kX P ops qs 0 ops.toList K σ):
  W P N n0 (.seq (.region id ops true) y) Q σ :=
 Fc qs _ hm hd ht λK hK=>by
  have:=AH (P:=P) (ops:=ops) (qs:=qs) ops.toList 0 σ rfl (h K hK);rw[pD];simpa using this
def xI{id:Nat}{ops:Array Oper}(qs:List Nat)(hm:P.follows .mixedOrders=true)(hd:dQ N ops=true)(ht:xH ops qs=true)(h:∀ K:St->Prop,(∀ s,Q .normal s->K s)->kX P ops qs 0 ops.toList K σ):
  W P N n0 (.region id ops true) Q σ :=
 nq qs _ hm hd ht (by
  have:=AH (P:=P) (ops:=ops) (qs:=qs) ops.toList 0 σ rfl (h _ (λ_ h=>h));rw[pD];simpa using this)
def bg{f:FuncId}{args:List AV}{dst:Option Tmp}{K:St->Prop}{res:AV}(h:ao P f args [] res [])(ha:iT args=true)(hr:gK res=true)(hK:K (σ.put dst res)):AI P f args dst K σ :=
 ⟨res,h,ha,hr,hK⟩
end Go.Am
namespace Go.Am
variable {P:Program} {N n0:Nat} {σ:St} {Q:Exit->St->Prop}
def aK.AJ{σ:St}{γ:Cx}(h:aK σ γ){id:Nat}{cells cells':List AV}(ho:σ.aa[id]?=some (.var cells))(hl:cells'.length=cells.length)(hc:∀ (c:Nat) v v',cells[c]?=some v->cells'[c]?=some v'->∀ cv,ah σ.aa γ.w γ.Z γ.blk v cv->ah σ.aa γ.w γ.Z γ.blk v' cv):aK ⟨σ.env,σ.aa.set id (.var cells')⟩ γ:=by
 obtain⟨b,cap,cur,t,h1,h2,h3,h4⟩:=h.c9 id _ ho;have:=h.write (ob':=.var cells') ho Eb (by simp[Ob.cA,hl]) h1 (w':=γ.w) h2 (λ_ _=>rfl) rfl ⟨rfl,by rw[h3,hl],λc v hv=>?_⟩
 ·exact this
 ·have aZ:c<cells.length:=by rw[<- hl];exact(aF.1 hv).1
  exact hc c _ v (aN aZ) hv _ (h4 c _ (aN aZ))
def Fr.AJ(os:List Ob)(γ:Cx){id:Nat}{cells cells':List AV}(ho:os[id]?=some (.var cells))(hl:cells'.length=cells.length):Fr os γ (os.set id (.var cells')) γ where
 ij:=rfl
 tape:=rfl
 output:=rfl
 size:=Nat.le_refl _
 cg:=λ_ _ _=>rfl
 z0:=λ_ h=>h
 z1:=λ_ h=>.inl h
 own:=by
  rintro b⟨i,o,c,⟨x,hx,da⟩,hb⟩;rw[bM]at hx;split at hx
  ·rename_i e;subst e;exact .inl ⟨id,o,c,⟨_,ho,Eb⟩,hb⟩
  ·exact .inl ⟨i,o,c,⟨x,hx,da⟩,hb⟩
 len:=Eb
 gf:=by
  rintro i hi⟨x,hx,da⟩;have hx0:=hx;rw[bM]at hx;split at hx
  ·rename_i e;subst e;exact⟨rfl,.var cells,.var cells',ho,by rw[bM];simp[hi],by simp[Ob.cA,hl]⟩
  ·exact⟨rfl,x,x,hx,hx0,Ob.fv da⟩
def aR.AK(id c sz:Nat){cells:List AV}(ho:σ.aa[id]?=some (.var cells))(hc:cells[c]?=some (.lit (.slice none 0 0)))(h0:0<sz):
  aR n0 σ ⟨σ.env,(σ.aa++[Ob.arr sz []]).set id (.var (cells.set c (.ref σ.aa.length sz 0 0)))⟩:=by
 intro os γ0 γ _ hs hf;have hp:=hs.q' h0;have bZ:id<σ.aa.length:=(aF.1 ho).1;have bW:(σ.aa++[Ob.arr sz []])[id]?=some (.var cells):=by rw[bL bZ];exact ho
 refine⟨{ γ with blk:=bE γ.blk σ.aa.length none },rfl,rfl,?_,(hf.trans (Fr.q' _ _ _)).trans (Fr.AJ _ _ bW (cells':=cells.set c (.ref σ.aa.length sz 0 0)) Eb)⟩;refine hp.AJ bW (cells':=cells.set c (.ref σ.aa.length sz 0 0)) Eb (λk v v' hv mA cv hr=>?_);rw[bM]at mA;split at mA
 ·rename_i e;subst e;split at mA
  ·simp only[cB.injEq]at mA;subst mA;have hk:cells[c]?=some v:=hv;rw[hc]at hk;simp only[cB.injEq]at hk;subst hk;rw[hr.bw];exact .gP _ _ (List.getElem?_concat_length ..) (by simp[bE])
  ·simp at mA
 ·have hk:cells[k]?=some v':=mA;have dH:cells[k]?=some v:=hv;rw[dH]at hk;simp only[cB.injEq]at hk;subst hk;exact hr
def aR.AL(a id c sz:Nat){cells:List AV}{rows:List (List AV)}(ho:σ.aa[id]?=some (.var cells))(ha:σ.aa[a]?=some (.arr sz rows))(hc:cells[c]?=some (.ref a sz 0 rows.length))(hw:∀ row∈rows,row.length=sz)(pQ:∀ row∈rows,∀ v∈row,(∃ x,v=.lit x)\/∃ s r,v=.tree s r):aR n0 σ ⟨σ.env,(σ.aa.set a .gone).set id (.var (cells.set c (.tree sz rows)))⟩:=by
 intro os γ0 γ _ hs hf;have xJ:a≠id:=by intro e;subst e;rw[ho]at ha;simp at ha
 have re:id<σ.aa.length:=(aF.1 ho).1;have gz:a<σ.aa.length:=(aF.1 ha).1
 let ak:Cx:={ γ with Z:=λb=>γ.Z b\/∃ o cap,γ.blk a=some (b,o,cap) }
 let bH:=(σ.aa.set a .gone).set id (.var (cells.set c (.tree sz rows)))
 have fb:∀ i,bH[i]?=if i=id then some (.var (cells.set c (.tree sz rows))) else if i=a then some .gone else σ.aa[i]?:=by
  intro i;show((σ.aa.set a .gone).set id _)[i]?=_;rw[bM,bM];by_cases h1:i=id
  ·subst h1;simp[re]
  ·by_cases h2:i=a
   ·subst h2;simp[Ne.symm h1,h1,gz]
   ·simp[Ne.symm h1,Ne.symm h2,h1,h2]
 have hR:∀ v cv,ah σ.aa γ.w γ.Z γ.blk v cv->ah bH ak.w ak.Z ak.blk v cv:=λv cv hv =>
  hv.mono (λb hb=>⟨.inl hb,rfl⟩) (λi o hi=>by
   rw[fb];by_cases h1:i=id
   ·subst h1;rw[ho]at hi;simp only[cB.injEq]at hi;subst hi;right;exact⟨rfl,_,by rw[if_pos rfl],by simp[Ob.cA]⟩
   ·rw[if_neg h1];by_cases h2:i=a
    ·left;rw[if_pos h2]
    ·rw[if_neg h2];by_cases hg:o=.gone
     ·subst hg;exact .inl hi
     ·exact .inr ⟨rfl,o,hi,Ob.fv hg⟩)
 have bc:∀ i,Live bH i->Live σ.aa i/\i≠a:=by
  rintro i⟨o,hi,hg⟩;rw[fb]at hi;split at hi
  ·rename_i h1;subst h1;exact⟨⟨_,ho,Eb⟩,Ne.symm xJ⟩
  ·split at hi
   ·simp at hi;exact absurd hi.symm hg
   ·rename_i h2;exact⟨⟨o,hi,hg⟩,h2⟩
 have jY:Live σ.aa a:=⟨_,ha,Eb⟩;refine⟨ak,rfl,rfl,⟨λk=>hR _ _ (hs.ax k),?_,λi j b o c o' c' hi hj=>hs.inj i j b o c o' c' (bc i hi).1 (bc j hj).1,?_,?_,λg=>rf (hs.gl g) λb hb=>⟨.inl hb,rfl⟩⟩,?_⟩
 ·intro i o hi;have hi':bH[i]?=some o:=hi;rw[fb]at hi';split at hi'
  ·rename_i h1;subst h1;simp only[cB.injEq]at hi';subst hi';obtain⟨b,cap,cur,t,h1,h2,h3,h4⟩:=hs.c9 _ _ ho;refine⟨b,cap,cur,t,h1,h2,by simpa using h3,λk v hv=>?_⟩;rw[bM]at hv;split at hv
   ·rename_i e;subst e;split at hv
    ·simp only[cB.injEq]at hv;subst hv;have eu:cW σ (λx=>x≠a) (.tree sz rows) (.ref a sz 0 rows.length):=cW.flat ha hw rfl Eb pQ;exact .bp _ _ (eu.sX hs (γc:=ak) (λb hb=>.inl hb) rfl (λx b o cap bZ _ hb=>.inr ⟨o,cap,by rw[show a=x by simpa using(Decidable.not_not.1 bZ).symm];exact hb⟩) _ (h4 c _ hc))
    ·simp at hv
   ·exact hR _ _ (h4 k v hv)
  ·split at hi'
   ·simp only[cB.injEq]at hi';subst hi';trivial
   ·by_cases hg:o=.gone
    ·subst hg;trivial
    ·exact(hs.c9 i o hi').mono hR rfl (λ_ _ _ _=>rfl)
 ·rintro b ⟨i,o,c',hi,hb⟩ (hz|⟨o',cap,bq⟩)
  ·exact hs.nz b ⟨i,o,c',(bc i hi).1,hb⟩ hz
  ·exact(bc i hi).2 (hs.inj i a b o c' o' cap (bc i hi).1 jY hb bq)
 ·rintro b (hz|⟨o,cap,hb⟩)
  ·exact hs.eF b hz
  ·exact hs.blt jY hb
 ·refine⟨hf.ij,hf.tape,hf.output,hf.size,hf.cg,λb hb=>.inl (hf.z0 b hb),?_,?_,by show os.length<=bH.length;simp[bH];exact hf.len,?_⟩
  ·rintro b (hz|⟨o,cap,hb⟩)
   ·exact hf.z1 b hz
   ·exact .inr (hf.own b ⟨a,o,cap,jY,hb⟩)
  ·rintro b ⟨i,o,c',hi,hb⟩;exact hf.own b ⟨i,o,c',(bc i hi).1,hb⟩
  ·intro i hi hl;obtain⟨h1,x,x',hx,bF,hk⟩:=hf.gf i hi (bc i hl).1;have nr:=(bc i hl).2;have fY:Live bH i:=hl;obtain⟨o,cw,b9⟩:=fY;refine⟨h1,x,o,hx,cw,?_⟩;rw[fb]at cw;split at cw
   ·rename_i e;subst e;rw[ho]at bF;simp only[cB.injEq]at bF cw;subst bF;subst cw;refine Ob.Fe hk (by simp[Ob.cA])
   ·rw[bF]at cw;simp only[cB.injEq]at cw;subst cw;exact hk
end Go.Am
namespace Go.Am
variable {P:Program}
def pR(P:Program):List Field->Nat->Nat->Bool
 |[],o,n=>o==n
 |f::fs,o,n=>f.offset==o&&pR P fs (o+P.cellsOf f.type) n
def ns(P:Program):Nat->TypeId->Bool
 |0,_=>false
 |d+1,t =>
  match P.underlying t with
  |some (.int .i64)=>P.cellsOf t==1
  | some (.struct fs) => (P.info? t).isSome && !P.stoodInHeld t && pR P fs.toList 0 (P.cellsOf t) && fs.toList.all λf => f.name != "_" && ns P d f.type
  |_=>false
def nt(P:Program)(t:TypeId)(xs:List Int):Value :=
 match P.underlying t with
 |some (.struct _)=>.agg (xs.map (Value.int .i64)).toArray
 |_=>.int .i64 (xs.getD 0 0)
def Ff{as bs:List Int}{o c:Nat}(h:as.length=bs.length):as.drop o=bs.drop o↔(as.drop o).take c=(bs.drop o).take c/\as.drop (o+c)=bs.drop (o+c):=by
 constructor
 ·intro e;refine⟨by rw[e],?_⟩;rw[<- DW,<- DW,e]
 ·rintro⟨e1,e2⟩;rw[<- DW,<- DW]at e2;rw[<- DX c (as.drop o),<- DX c (bs.drop o),e1,e2]
def Fg(w:World){d:Nat}{t:TypeId}(h:ns P d t=true){as:List Int}{o:Nat}(ho:o+P.cellsOf t<=as.length):
  (part t (as.map (Value.int .i64)).toArray o).run P w=.ok (nt P t ((as.drop o).take (P.cellsOf t))) w:=by
 cases d with
 |zero=>simp[ns]at h
 |succ d =>
  unfold ns at h;cases hu:P.underlying t with
  |none=>simp[hu]at h
  |some k =>
   rw[hu]at h;cases k<;>try(simp at h;done)
   case int q =>
    cases q<;>try(simp at h;done)
    have hc:P.cellsOf t=1:=by simpa using h
    rw[hc]at ho;have hx:((as.map (Value.int .i64)).toArray)[o]?=some (.int .i64 (as.getD o 0)):=by
     have:o<as.length:=z8;simp[this]
    simp only[part,isAgg,Sem.run_bind,run_underlying hu,Result.andThen_ok,Sem.run_pure,iQ,if_false,Sem.run_ite,hx];have:o<as.length:=z8;simp[nt,hu,hc,this]
   case struct fs =>
    simp only[bb]at h;obtain⟨i,hi⟩:=Option.isSome_iff_exists.1 h.1.1.1;have hs:∀ w,(sizeOf t).run P w=.ok (P.cellsOf t) w:=λw=>by
     simp[sizeOf,typeInfo,Program.cellsOf,hi,run_program]
    simp only[part,isAgg,Sem.run_bind,run_underlying hu,Result.andThen_ok,Sem.run_pure,if_true,Sem.run_ite,hs];simp only[nt,hu];congr 2;simp[List.map_take,List.map_drop]
def Fh{D d:Nat}(ih:∀ t,ns P d t=true->∀ (w:World) (as bs:List Int),as.length=P.cellsOf t->bs.length=P.cellsOf t->(Op.equalIn (D+d) t (nt P t as) (nt P t bs)).run P w=.ok (decide (as=bs)) w){as bs:List Int}(hl:as.length=bs.length):
  ∀ (fs : List Field) (o : Nat) (w : World), pR P fs o as.length = true -> (fs.all λf => f.name != "_" && ns P d f.type) = true ->
   o+(fs.map λf=>P.cellsOf f.type).sum=as.length->(Op.eqFields (D+d) (as.map (Value.int .i64)).toArray (bs.map (Value.int .i64)).toArray fs).run P w=.ok (decide (as.drop o=bs.drop o)) w
 |[],o,w,ht,_,hs=>by
  have:o=as.length:=by simpa [pR] using ht
  subst this;have:bs.drop as.length=[]:=List.drop_eq_nil_of_le z8;simp[Op.eqFields,this]
 |f::fs,o,w,ht,ha,hs=>by
  simp only[pR,bb,beq_iff_eq]at ht;obtain⟨rfl,ht⟩:=ht;simp only[List.all_cons,bb,bne_iff_ne]at ha;simp only[km,List.sum_cons]at hs;have h1:=Fg (as:=as) w ha.1.2 (o:=f.offset) z8;have h2:=Fg (as:=bs) w ha.1.2 (o:=f.offset) z8;have h3:=ih f.type ha.1.2 w ((as.drop f.offset).take (P.cellsOf f.type)) ((bs.drop f.offset).take (P.cellsOf f.type)) UU UU;have h4:=Fh ih hl fs (f.offset+P.cellsOf f.type) w ht ha.2 z8;simp only[Op.eqFields];rw[if_pos ha.1.1];simp only[Sem.run_bind,h1,h2,h3,Result.andThen_ok,Sem.run_ite,Sem.run_pure,h4];by_cases he:(as.drop f.offset).take (P.cellsOf f.type)=(bs.drop f.offset).take (P.cellsOf f.type)
  ·rw[decide_eq_true he];simp only[Bool.not_true,iQ,if_false];congr 1;rw[decide_eq_decide,Ff (o:=f.offset) (c:=P.cellsOf f.type) hl];simp[he]
  ·rw[decide_eq_false he];simp only[Bool.not_false,if_true];congr 1;rw[eq_comm,decide_eq_false_iff_not,Ff (o:=f.offset) (c:=P.cellsOf f.type) hl];exact λh=>he h.1
def Fi:∀ (fs:List Field) (o n:Nat),pR P fs o n=true->o+(fs.map λf=>P.cellsOf f.type).sum=n
 |[],o,n,h=>by simpa [pR] using h
 |f::fs,o,n,h=>by
  simp only[pR,bb,beq_iff_eq]at h;have:=Fi fs _ n h.2;simp only[km,List.sum_cons];omega
def Fj(D:Nat):∀ (d:Nat) (t:TypeId),ns P d t=true->∀ (w:World) (as bs:List Int),as.length=P.cellsOf t->bs.length=P.cellsOf t->(Op.equalIn (D+d) t (nt P t as) (nt P t bs)).run P w=.ok (decide (as=bs)) w
 |0,t,h=>by simp[ns]at h
 |d+1,t,h=>by
  intro w as bs ha hb;unfold ns at h;cases hu:P.underlying t with
  |none=>simp[hu]at h
  |some k =>
   rw[hu]at h;cases k<;>try(simp at h;done)
   case int q =>
    cases q<;>try(simp at h;done)
    have hc:P.cellsOf t=1:=by simpa using h
    rw[hc]at ha hb
    match as,bs,ha,hb with
    |[a],[b],_,_ =>
     simp only[nt,hu,List.getD_cons_zero];rw[show D+(d+1)=(D+d)+1 from rfl,run_equalIn_int w (D+d) t .i64 .i64 a b hu];congr 1;rw[jL];simp
   case struct fs =>
    simp only[bb,Bool.not_eq_true']at h;have hf:P.fieldsOf t=fs:=by simp[Program.fieldsOf,hu]
    simp only[nt,hu];rw[show D+(d+1)=(D+d)+1 from rfl,run_equalIn_struct w (D+d) t _ _ (by rw[hf];exact hu) h.1.1.2,hf];have:=Fh (D:=D) (Fj D d) (as:=as) (bs:=bs) z8 fs.toList 0 w (by rw[ha];exact h.1.2) h.2 (by rw[ha];exact Fi _ _ _ h.1.2);simpa using this
def AM(P:Program)(d:Nat)(t:TypeId)(n:Nat):Bool :=
 (match P.underlying t with|some (.struct _)=>true|_=>false)&&decide (d<=10000)&&ns P d t&&(P.cellsOf t==n)
def mB.of{t:TypeId}(d:Nat){n:Nat}(h:AM P d t n=true):mB P t n:=by
 intro w as bs ha hb;simp only[AM,bb,decide_eq_true_eq,beq_iff_eq]at h;obtain⟨⟨⟨h1,hd⟩,h2⟩,h3⟩:=h;have:=Fj (10000-d) d t h2 w as bs z8 z8;rw[Nat.sub_add_cancel hd]at this;cases hu:P.underlying t with
 |none=>rw[hu]at h1;simp at h1
 |some k =>
  cases k<;>rw[hu]at h1<;>try(simp at h1;done)
  simpa only[nt,hu] using this
end Go.Am
namespace Go.Am
variable {P:Program} {N n0:Nat} {σ:St} {Q:Exit->St->Prop}
def mr(o:Oper):Bool :=
 match o.op with
 |.call c=>match c.callee with
  |.value _=>true
  |_=>false
 |_=>false
def sY(ops:Array Oper):List Nat:=(bj ops.size).filter λi=>match ops[i]? with|some o=>mr o|none=>false
def lN(P:Program)(ops:Array Oper):List Oper->(St->Prop)->St->Prop
 |[],K,σ=>K σ
 |o::r,K,σ=>dm P ops (mr o) o (lN P ops r K) σ
def EO{ops:Array Oper}{K:St->Prop}:lN P ops [] K σ=K σ:=by simp only[lN]
def As{ops:Array Oper}{o:Oper}{r:List Oper}{K:St->Prop}:lN P ops (o::r) K σ=dm P ops (mr o) o (lN P ops r K) σ:=by simp only[lN]
def Ni{ops:Array Oper}{i:Nat}{o:Oper}(h:ops[i]?=some o):(sY ops).contains i=mr o:=by
 have hi:i<ops.size:=(jJ.1 h).1;rw[jL,oh];simp only[sY,fI,jM,hi,true_and,h]
def AN{ops:Array Oper}{K:St->Prop}:∀ (l:List Oper) (i:Nat) (σ:St),ops.toList.drop i=l->lN P ops l K σ->kX P ops (sY ops) i l K σ
 |[],i,σ,_,h=>h
 |o::r,i,σ,hl,h=>by
  have hi:ops[i]?=some o:=by
   have:(ops.toList.drop i)[0]?=some o:=by rw[hl];rfl
   simpa using this
  have hr:ops.toList.drop (i+1)=r:=by
   have:=congrArg z5 hl;simpa [z6] using this
  rw[xw,Ni hi];rw[As]at h;exact uQ (λs hs=>AN r (i+1) s hr hs) h
def xz(ops:Array Oper):Bool:=xH ops (sY ops)
def MW{id:Nat}{ops:Array Oper}{y:Code}(hm:P.follows .mixedOrders=true)(hd:dQ N ops=true)(ht:xz ops=true)(h:∀ K:St->Prop,(∀ s,W P N n0 y Q s->K s)->lN P ops ops.toList K σ):
  W P N n0 (.seq (.region id ops true) y) Q σ :=
 Fb (sY ops) hm hd ht λK hK=>AN ops.toList 0 σ rfl (h K hK)
def MX{id:Nat}{ops:Array Oper}(hm:P.follows .mixedOrders=true)(hd:dQ N ops=true)(ht:xz ops=true)(h:∀ K:St->Prop,(∀ s,Q .normal s->K s)->lN P ops ops.toList K σ):
  W P N n0 (.region id ops true) Q σ :=
 xI (sY ops) hm hd ht λK hK=>AN ops.toList 0 σ rfl (h K hK)
def ox:List Oper->Bool
 |[]=>false
 |o::r=>mr o||ox r
def sZ(ops:Array Oper):List Nat:=(bj ops.size).filter λi=>match ops[i]? with|some o=>mr o&&ox (ops.toList.drop (i+1))|none=>false
def lM(P:Program)(ops:Array Oper):List Oper->(St->Prop)->St->Prop
 |[],K,σ=>K σ
 |o::r,K,σ=>dm P ops (mr o&&ox r) o (lM P ops r K) σ
def EP{ops:Array Oper}{K:St->Prop}:lM P ops [] K σ=K σ:=by simp only[lM]
def Au{ops:Array Oper}{o:Oper}{r:List Oper}{K:St->Prop}:lM P ops (o::r) K σ=dm P ops (mr o&&ox r) o (lM P ops r K) σ:=by simp only[lM]
def Nj{ops:Array Oper}{i:Nat}{o:Oper}{r:List Oper}(h:ops[i]?=some o)(hr:ops.toList.drop (i+1)=r):(sZ ops).contains i=(mr o&&ox r):=by
 have hi:i<ops.size:=(jJ.1 h).1;rw[jL,oh];simp only[sZ,fI,jM,hi,true_and,h,hr]
def AO{ops:Array Oper}{K:St->Prop}:∀ (l:List Oper) (i:Nat) (σ:St),ops.toList.drop i=l->lM P ops l K σ->kX P ops (sZ ops) i l K σ
 |[],i,σ,_,h=>h
 |o::r,i,σ,hl,h=>by
  have hi:ops[i]?=some o:=by
   have:(ops.toList.drop i)[0]?=some o:=by rw[hl];rfl
   simpa using this
  have hr:ops.toList.drop (i+1)=r:=by
   have:=congrArg z5 hl;simpa [z6] using this
  rw[xw,Nj hi hr];rw[Au]at h;exact uQ (λs hs=>AO r (i+1) s hr hs) h
def xy(ops:Array Oper):Bool:=xH ops (sZ ops)
def MU{id:Nat}{ops:Array Oper}{y:Code}(hm:P.follows .mixedOrders=true)(hd:dQ N ops=true)(ht:xy ops=true)(h:∀ K:St->Prop,(∀ s,W P N n0 y Q s->K s)->lM P ops ops.toList K σ):
  W P N n0 (.seq (.region id ops true) y) Q σ :=
 Fb (sZ ops) hm hd ht λK hK=>AO ops.toList 0 σ rfl (h K hK)
def MV{id:Nat}{ops:Array Oper}(hm:P.follows .mixedOrders=true)(hd:dQ N ops=true)(ht:xy ops=true)(h:∀ K:St->Prop,(∀ s,Q .normal s->K s)->lM P ops ops.toList K σ):
  W P N n0 (.region id ops true) Q σ :=
 xI (sZ ops) hm hd ht λK hK=>AO ops.toList 0 σ rfl (h K hK)
end Go.Am

