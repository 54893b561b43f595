import Derived.Test.YtjadfapldkfbpaaGreatX06
set_option linter.all false
set_option maxHeartbeats 0
set_option maxRecDepth 20000
open List renaming all_eq_true→gV,mem_map→cC,getElem?_append_left→dg,range'→n5,range_eq_range'→xp,getElem?_eq_some_iff→aY,getElem?_eq_getElem→bT,getElem?_set→cm
open Array renaming replicate→vR,getD_eq_getD_getElem?→fU,getElem?_append_left→G6
open Nat renaming lt_or_ge→fN
open Option renaming some→dD
namespace Go.Am
variable {σ:St}
class Row {α:Type} (enc:α->List AV) (sz:outParam Nat):Prop where
 wid:∀ x,(enc x).length=sz
 ok:∀ x,∀ v∈enc x,(∃ y,v=.lit y/\y.oneCell'=true)\/∃ s r,v=.tree s r
def rowsOf{α:Type}(enc:α->List AV)(xs:List α):List (List AV):=xs.map enc
section
variable {α:Type} {enc:α->List AV} {sz:Nat}
def bX(xs:List α):(rowsOf enc xs).length=xs.length:=by simp[rowsOf]
def fY[Inhabited α](xs:List α)(i:Nat)(h:i<xs.length):(rowsOf enc xs).getD i []=enc (xs.getD i default):=by simp[rowsOf,h]
def xS[Inhabited α](xs:List α)(i:Nat)(h:i<xs.length):(rowsOf enc xs)[i]?=some (enc (xs.getD i default)):=by simp[rowsOf,h]
def Sj(xs:List α):(rowsOf enc xs).take xs.length=rowsOf enc xs:=by rw[List.take_of_length_le (by simp[rowsOf])]
def LW(xs ys:List α):rowsOf enc xs++rowsOf enc ys=rowsOf enc (xs++ys):=by simp[rowsOf]
def lJ(xs:List α)(x:α):rowsOf enc xs++[enc x]=rowsOf enc (xs++[x]):=by simp[rowsOf]
def Cv(xs:List α)(i:Nat)(x:α):(rowsOf enc xs).set i (enc x)=rowsOf enc (xs.set i x):=by simp[rowsOf,List.map_set]
def Sk[Row enc sz](x:α):(enc x).all cJ=true:=by
 rw[gV];intro v hv;rcases Row.ok (enc:=enc) x v hv with⟨y,rfl,h⟩|⟨s,r,rfl⟩
 ·simpa [cJ] using h
 ·rfl
def EG[Row enc sz](xs:List α):((rowsOf enc xs).all λrow=>row.all cJ)=true:=by
 simp only[rowsOf,List.all_map,gV];intro x _;exact Sk (enc:=enc) x
def afc{l:List AV}(h:∀ v∈l,gQ v=true):jl l=true:=by
 induction l with
 |nil=>rfl
 |cons v l ih=>simp only[jl,Bool.and_eq_true];exact⟨h v G9,ih λx hx=>h x (by simp[hx])⟩
def afd[Row enc sz](x:α):jl (enc x)=true:=afc λv hv=>by
 rcases Row.ok (enc:=enc) x v hv with⟨y,rfl,_⟩|⟨s,r,rfl⟩<;>rfl
def rM[Row enc sz](ρ:Nat->Nat)(s:Nat)(xs:List α):bU ρ (.arr s (rowsOf enc xs))=.arr s (rowsOf enc xs):=D8 (by
 intro row hr;simp only[rowsOf,cC]at hr;obtain⟨x,_,rfl⟩:=hr;exact afd (enc:=enc) x)
def jX[Row enc sz](xs:List α):∀ row∈rowsOf enc xs,∀ v∈row,(∃ x,v=AV.lit x)\/∃ s r,v=AV.tree s r:=by
 intro row hr v hv;simp only[rowsOf,cC]at hr;obtain⟨x,_,rfl⟩:=hr;rcases Row.ok (enc:=enc) x v hv with⟨y,rfl,_⟩|h
 ·exact .inl ⟨_,rfl⟩
 ·exact .inr h
def fQ[Row enc sz](xs:List α):∀ row∈rowsOf enc xs,row.length=sz:=by
 intro row hr;simp only[rowsOf,cC]at hr;obtain⟨x,_,rfl⟩:=hr;exact Row.wid (enc:=enc) x
end
structure bV where
 wk:Int
 day:Int
 st:Int
 len:Int
 room:Int
 ch:List (Int×Int)
 deriving Inhabited
structure Pr where
 fst:Int
 snd:Int
 bF:Int
 aD:List Int
 deriving Inhabited
structure Ld where
 cls:Int
 opt:Int
 wt:Int
 deriving Inhabited
structure Ct where
 bF:Int
 aJ:List Ld
 most:Int
 b8:Int
 deriving Inhabited
structure ah where
 cls:List (List bV)
 ae:List Pr
 ax:List Ct
 rules:Int
 deriving Inhabited
def i64(n:Int):AV:=aaa n
def aK(c:Int×Int):List AV:=[aaa c.1,aaa c.2]
def cK(o:bV):List AV:=[aaa o.wk,aaa o.day,aaa o.st,aaa o.len,aaa o.room,.tree 2 (rowsOf aK o.ch)]
def a9(l:List bV):List AV:=[.tree 6 (rowsOf cK l)]
def aQ(p:Pr):List AV:=[aaa p.fst,aaa p.snd,aaa p.bF,.tree 1 (ints p.aD)]
def iH(l:Ld):List AV:=[aaa l.cls,aaa l.opt,aaa l.wt]
def aV(c:Ct):List AV:=[aaa c.bF,.tree 3 (rowsOf iH c.aJ),aaa c.most,aaa c.b8]
def ao(m:ah):List AV:=[.tree 1 (rowsOf a9 m.cls),.tree 4 (rowsOf aQ m.ae),.tree 4 (rowsOf aV m.ax),aaa m.rules]
def xT{l:List AV}(h:(l.all λv=>match v with|.lit y=>y.oneCell'|.tree ..=>true|_=>false)=true):∀ v∈l,(∃ y,v=AV.lit y/\y.oneCell'=true)\/∃ s r,v=AV.tree s r:=by
 intro v hv;have:=gV.1 h v hv;cases v<;>simp at this
 ·exact .inl ⟨_,rfl,this⟩
 ·exact .inr ⟨_,_,rfl⟩
instance:Row aK 2:=⟨λ_=>rfl,λ_=>xT rfl⟩
instance:Row cK 6:=⟨λ_=>rfl,λ_=>xT rfl⟩
instance:Row a9 1:=⟨λ_=>rfl,λ_=>xT rfl⟩
instance:Row aQ 4:=⟨λ_=>rfl,λ_=>xT rfl⟩
instance:Row iH 3:=⟨λ_=>rfl,λ_=>xT rfl⟩
instance:Row aV 4:=⟨λ_=>rfl,λ_=>xT rfl⟩
instance:Row ao 4:=⟨λ_=>rfl,λ_=>xT rfl⟩
end Go.Am
namespace Go.Am
variable {P:Program}
variable {N n0:Nat} {Q:Exit->St->Prop} {σ:St}
def gR(P:Program)(n0:Nat)(rs:List ResultVar)(jd:AV->List Ob->Prop):Exit->St->Prop
 |.normal,s=>eQ s P rs λvs=>∃ res bI,jd res bI/\pH n0 s (eG vs) res bI
 |.ret,s=>eQ s P rs λvs=>∃ res bI,jd res bI/\pH n0 s (eG vs) res bI
 |_,_=>False
def fG.Lp {f : FuncId} {fn : Func} {c : Code} {args : List AV} {aa : List Ob} {jd : AV -> List Ob -> Prop} (hf : P.funcs[f]? = some fn) (hb : fn.body = some c) (sM : (fn.name == "runtime.NumGoroutine") = false)
  (hN:args.length<=fn.ntmps) (h:W P fn.ntmps aa.length c (gR P aa.length fn.results.toList jd) ⟨λk=>args.getD k .undef,aa⟩):fG P f args aa jd:=by
 refine⟨⟨fn,hf,sM,by rw[hb];rfl⟩,?_⟩;intro γ bg hs;refine calls_of_wp hf hb ?_
 let tm:=γ.tmps++vR (fn.ntmps-γ.tmps.size) Go.undef
 have aw:gP fn.ntmps aa γ ⟨λk=>args.getD k .undef,aa⟩ { tmps:=tm,defers:=[] } γ.w:=by
  refine⟨rfl,by simp[tm];omega,{ γ with tmps:=tm },rfl,rfl,⟨λk=>?_,hs.fF,hs.inj,hs.nz,hs.jm,hs.gl⟩,(Fr.refl _ _).put _⟩;rcases fN k args.length with hk|hk
  ·have:=hs.au k;have e:tm.getD k Go.undef=γ.tmps.getD k Go.undef:=by
    simp only[tm,fU];rw[G6 G3]
   show aA _ _ _ _ _ (tm.getD k Go.undef);rw[e];exact this
  ·have e:args.getD k AV.undef=.undef:=by simp[hk]
   show aA _ _ _ _ (args.getD k .undef) _;rw[e];exact .undef _
 refine wp_mono (h aa γ _ γ.w rfl aw) ?_;rintro e a' w'⟨σ',h1,iP,_,aP,rfl,ha,iB,gn⟩;have fin:∀ (K:List AV->Prop),eQ σ' P fn.results.toList K->(∀ vs,K vs->∃ res bI,jd res bI/\pH aa.length σ' (eG vs) res bI) ->
   a'.defers=[]/\∃ v,(results fn a'.tmps).run P aP.w=.ok v aP.w/\∃ res bI cv jV,jd res bI/\Ending.returned v=.returned cv/\jV.w=aP.w/\jV.tmps = #[cv]/\bC ⟨λk=>[res].getD k .undef,bI⟩ jV/\Fr aa γ bI jV:=by
  intro K hK Lr;obtain⟨vs,bz,k1,k2,k3,k4,k5⟩:=HI iB _ _ hK;obtain⟨res,bI,Lf,aq,snap,r1,r2,r3,r4,r5,r6,r7⟩:=Lr vs k1;refine⟨iP,?_⟩;have fP :∃v,(results fn a'.tmps).run P aP.w=.ok v aP.w/\aA σ'.aa aP.w aP.Z aP.blk (eG vs) v:=by
   have hm:(fn.results.mapM λ(r:ResultVar)=>match r with|.tmp t=>(pure (a'.tmps.getD t Go.undef):Sem Value)|.cell a t=>do loadVar t (← asAddr (a'.tmps.getD a Go.undef))).run P aP.w=.ok bz.toArray aP.w:=by
    rw[Array.mapM_eq_mapM_toList,Sem.run_map,<- ha];exact congrArg (λ(r:Result (List Value))=>r.andThen λa w'=>Result.ok a.toArray w') k2
   have hr:(results fn a'.tmps).run P aP.w=.ok (if h:bz.toArray.size=1 then bz.toArray[0] else .tuple bz.toArray) aP.w:=by
    unfold results;rw[Sem.run_bind];exact congrArg (λr=>Result.andThen r λ(a:Array Value) w'=>(pure (if h:a.size=1 then a[0] else Value.tuple a):Sem Value).run P w') hm
   rw[hr]
   match vs,bz,k3,k5 with
   |[],[],_,k5=>exact⟨_,rfl,.bH _ _ rfl (λj x hj=>by simp at hj)⟩
   |[v],[cv],_,k5=>exact⟨cv,G9,by simpa [eG] using k5 0 v rfl⟩
   |v::v'::vs,cv::qy::bz,k3,k5 =>
    refine⟨.tuple (cv::qy::bz).toArray,G9,.bH _ _ (by simpa using k3) (λj x hj=>?_)⟩;have:=k5 j x hj;simpa [List.getD_eq_getElem?_getD,fU] using this
  obtain⟨v,oW,mo⟩:=fP;obtain⟨jV,e1,e2,e3,e4⟩:=iB.select aq snap bI r1 r2 r3 r4 (λk=>[res].getD k .undef) #[v] (λk=>by
   cases k with
   |zero=>exact .inr ⟨_,r7,by simpa using mo⟩
   |succ k=>left;simp)
  exact⟨v,oW,res,bI,v,jV,Lf,rfl,e1,e2,e3,gn.select r5 r2 r6 e1 e4⟩
 cases e with
 |normal=>exact fin _ h1 (λ_ h=>h)
 |ret=>exact fin _ h1 (λ_ h=>h)
 |exit id=>exact h1.elim
 |goto l=>exact h1.elim
 |panic c=>exact h1.elim
 |outgrown=>exact h1.elim
theorem fG.aC {f:FuncId} {fn:Func} {c:Code} {args:List AV} {aa:List Ob} {jd:AV -> List Ob -> Prop} (N k:Nat) (rs:List ResultVar) (hf:P.funcs[f]?=some fn) (h:W P N k c (gR P k rs jd) ⟨fun k=>args.getD k .undef,aa⟩) (hb:fn.body=some c:=by rfl) (sM:(fn.name=="runtime.NumGoroutine")=false:=by rfl) (hN:fn.ntmps=N:=by rfl) (xN:fn.results.toList=rs:=by rfl) (hk:aa.length=k:=by rfl) (hl:args.length<=N:=by simp):fG P f args aa jd:=by
 subst hN;subst xN;subst hk;exact fG.Lp hf hb sM hl h
def nF(P:Program)(g:FuncId)(args:List AV)(dst:Option Tmp)(K:St->Prop)(σ:St):Prop:=K' P g args σ λv σ'=>K (σ'.put dst v)
def wm(P:Program)(o:Oper)(K:St->Prop)(σ:St):Prop :=
 o.guard=none /\
 match o.op with
 |.call { callee:=.value f,args,.. } =>
  match ev σ f with
  |.fn g a6=>nF P g (args.toList.map (ev σ)++a6) o.dst K σ
  |_=>False
 |_=>False
def LX{os:List Ob}{γ0:Cx}{o:Oper}{K:St->Prop}(h:wm P o K σ){a:Act}{w:World}(aw:gP N os γ0 σ a w)(hd:∀ d,o.dst=some d->d<N){Q:Exit->Act->World->Prop}{next:Act->World->Prop}(hn:∀ σ' a' w',K σ'->gP N os γ0 σ' a' w'->next a' w'):o.wp P a w next Q:=by
 obtain⟨iP,bg,γ,rfl,ha,hs,hf⟩:=aw;have uX:∀ d,o.dst=some d->d<a.tmps.size:=λd h=>by rw[bg];exact hd d h
 obtain⟨_,h⟩:=h;split at h
 ·rename_i f args cQ cU;split at h
  ·rename_i g a6 he;have dV:=tK hs ha f;rw[he]at dV;obtain⟨bz,bu,gZ,ln⟩:=dV.RV;have oQ:∀ (j:Nat) d,(args.toList.map (ev σ)++a6)[j]?=some d->aA σ.aa γ.w γ.Z γ.blk d (((args.map a.eval)++bz).getD j Go.undef):=by
    intro j d hj;simp only[fU];rcases fN j args.size with bx|og
    ·rw[dg (by simpa using bx)]at hj;rw[G6 (by simpa using bx)];simp only[List.getElem?_map,Array.getElem?_toList,Array.getElem?_map]at hj ⊢;cases hx:args[j]? with
     |none=>simp[hx]at hj
     |some y=>simp[hx]at hj ⊢;subst hj;exact tK hs ha y
    ·rw[List.getElem?_append_right (by simpa using og)]at hj;rw[Array.getElem?_append_right (by simpa using og)];simp only[List.length_map,Array.length_toList,Array.size_map]at hj ⊢;have:=ln _ d hj;simpa [fU] using this
   unfold nF at h;have kJ:=RN hs (argv:=(args.map a.eval)++bz) (by simp[gZ]) oQ h;obtain⟨aq,snap,dU,cg,jd,⟨⟨fn,xL,sM,yZ⟩,_⟩,_⟩:=h;unfold Oper.wp;have hr:(execOp a.eval o).run P γ.w=.ok (.enter g ((args.map a.eval)++bz)) γ.w:=by
    have eF : ¬ fn.name = "runtime.NumGoroutine" := by simpa using sM
    have nE:¬ fn.body=none:=by intro e;rw[e]at yZ;simp at yZ
    simp[execOp,cU,resolve,bu,Deferred.ofValue,invoke,callFunc,xL,eF,nE]
   rw[hr];show Calls P g _ _ _;refine kJ.mono ?_;rintro e w'⟨cv,v,σ',aP,rfl,rfl,kD,iB,gn,hv,hK,tL⟩;refine hn _ _ _ hK ⟨by rw[put_defers];exact iP,by rw[uO];exact bg,{ aP with tmps:=(a.put o.dst cv).tmps },rfl,rfl,sJ iB (by rw[kD,ha]) uX hv,?_⟩;rw[rB];exact(hf.trans gn).put _
  ·exact h.elim
 ·exact h.elim
def EH(aq:List Nat){f:FuncId}{args dU:List AV}{cg:List Ob}{dst:Option Tmp}{K:St->Prop}{jd:AV->List Ob->Prop}(h:fG P f dU cg jd)(b7:aq.Nodup)(ho:xB (bA σ.aa.length aq) σ.aa aq cg)(ha:eY (aI σ (·∈aq) (bA σ.aa.length aq) false) dU args)(hK:∀ res dt,jd res dt->K (({ σ with aa:=fi σ.aa aq (dt.map (bU (bA σ.aa.length aq))) }:St).put dst (br (bA σ.aa.length aq) res))):nF P f args dst K σ:=by
 obtain⟨h1,h2⟩:=ho.spec;obtain⟨h3,h4⟩:=ha.spec;exact⟨aq,false,dU,cg,jd,h,⟨b7,h1,h2,h3,h4⟩,λres dt hp=>⟨G9,hK res dt hp⟩⟩
end Go.Am
namespace Go.Am
variable {P:Program} {N n0:Nat} {σ:St} {Q:Exit->St->Prop}
def sQ(P:Program)(ops:Array Oper)(qs:List Nat):Nat->List Oper->(St->Prop)->St->Prop
 |_,[],K,σ=>K σ
 |i,o::r,K,σ=>e7 P ops (qs.contains i) o (sQ P ops qs (i+1) r K) σ
def Sl{ops:Array Oper}{qs:List Nat}{i:Nat}{K:St->Prop}:sQ P ops qs i [] K σ=K σ:=by simp only[sQ]
def HZ{ops:Array Oper}{qs:List Nat}{i:Nat}{o:Oper}{r:List Oper}{K:St->Prop}:sQ P ops qs i (o::r) K σ=e7 P ops (qs.contains i) o (sQ P ops qs (i+1) r K) σ:=by simp only[sQ]
def LY{ops:Array Oper}{qs:List Nat}{K:St->Prop}:∀ (l:List Oper) (i:Nat) (σ:St),ops.toList.drop i=l->sQ P ops qs i l K σ->ka P ops qs (kc (n5 i l.length)) K σ
 |[],i,σ,_,h=>h
 |o::r,i,σ,hl,h=>by
  have hi:ops[i]?=some o:=by
   have:(ops.toList.drop i)[0]?=some o:=by rw[hl];rfl
   simpa using this
  have hr:ops.toList.drop (i+1)=r:=by
   have:=congrArg List.tail hl;simpa [List.tail_drop] using this
  rw[List.length_cons,List.range'_succ];show du P ops qs i (ka P ops qs (kc (n5 (i+1) r.length)) K) σ;unfold du;simp only[hi];have hm:∀ s,sQ P ops qs (i+1) r K s->ka P ops qs (kc (n5 (i+1) r.length)) K s:=λs hs=>LY r (i+1) s hr hs;exact D6 hm h
def H0(ops:Array Oper)(qs:List Nat):Bool:=(kc (List.range ops.size)).ok ops qs ops.size (vR ops.size false)
def Sm{id:Nat}{ops:Array Oper}{y:Code}(qs:List Nat)(hm:P.follows .mixedOrders=true)(hd:gH N ops=true)(ht:H0 ops qs=true)(h:∀ K:St->Prop,(∀ s,W P N n0 y Q s->K s)->sQ P ops qs 0 ops.toList K σ):
  W P N n0 (.seq (.region id ops true) y) Q σ :=
 RD qs _ hm hd ht λK hK=>by
  have:=LY (P:=P) (ops:=ops) (qs:=qs) ops.toList 0 σ rfl (h K hK);rw[xp];simpa using this
def Cw{id:Nat}{ops:Array Oper}(qs:List Nat)(hm:P.follows .mixedOrders=true)(hd:gH N ops=true)(ht:H0 ops qs=true)(h:∀ K:St->Prop,(∀ s,Q .normal s->K s)->sQ P ops qs 0 ops.toList K σ):
  W P N n0 (.region id ops true) Q σ :=
 jb qs _ hm hd ht (by
  have:=LY (P:=P) (ops:=ops) (qs:=qs) ops.toList 0 σ rfl (h _ (λ_ h=>h));rw[xp];simpa using this)
def bK{f:FuncId}{args:List AV}{dst:Option Tmp}{K:St->Prop}{res:AV}(h:an P f args [] res [])(ha:jl args=true)(hr:gQ res=true)(hK:K (σ.put dst res)):KL P f args dst K σ :=
 ⟨res,h,ha,hr,hK⟩
end Go.Am
namespace Go.Am
variable {P:Program} {N n0:Nat} {σ:St} {Q:Exit->St->Prop}
def bC.LZ{σ:St}{γ:Cx}(h:bC σ γ){id:Nat}{cells cells':List AV}(ho:σ.aa[id]?=some (.var cells))(hl:cells'.length=cells.length)(hc:∀ (c:Nat) v v',cells[c]?=some v->cells'[c]?=some v'->∀ cv,aA σ.aa γ.w γ.Z γ.blk v cv->aA σ.aa γ.w γ.Z γ.blk v' cv):bC ⟨σ.env,σ.aa.set id (.var cells')⟩ γ:=by
 obtain⟨b,cap,cur,t,h1,h2,h3,h4⟩:=h.fF id _ ho;have:=h.write (ob':=.var cells') ho G9 (by simp[Ob.fj,hl]) h1 (w':=γ.w) h2 (λ_ _=>rfl) rfl ⟨rfl,by rw[h3,hl],λc v hv=>?_⟩
 ·exact this
 ·have bx:c<cells.length:=by rw[<- hl];exact(aY.1 hv).1
  exact hc c _ v (bT bx) hv _ (h4 c _ (bT bx))
def Fr.LZ(os:List Ob)(γ:Cx){id:Nat}{cells cells':List AV}(ho:os[id]?=some (.var cells))(hl:cells'.length=cells.length):Fr os γ (os.set id (.var cells')) γ where
 nt:=rfl
 tape:=rfl
 output:=rfl
 size:=Nat.le_refl _
 aH:=λ_ _ _=>rfl
 z0:=λ_ h=>h
 z1:=λ_ h=>.inl h
 own:=by
  rintro b⟨i,o,c,⟨x,hx,ed⟩,hb⟩;rw[cm]at hx;split at hx
  ·rename_i e;subst e;exact .inl ⟨id,o,c,⟨_,ho,G9⟩,hb⟩
  ·exact .inl ⟨i,o,c,⟨x,hx,ed⟩,hb⟩
 len:=G9
 lk:=by
  rintro i hi⟨x,hx,ed⟩;have hx0:=hx;rw[cm]at hx;split at hx
  ·rename_i e;subst e;exact⟨rfl,.var cells,.var cells',ho,by rw[cm];simp[hi],by simp[Ob.fj,hl]⟩
  ·exact⟨rfl,x,x,hx,hx0,Ob.kK ed⟩
def ay.my(id c sz:Nat){cells:List AV}(ho:σ.aa[id]?=some (.var cells))(hc:cells[c]?=some (.lit (.slice none 0 0)))(h0:0<sz):
  ay n0 σ ⟨σ.env,(σ.aa++[Ob.arr sz []]).set id (.var (cells.set c (.ref σ.aa.length sz 0 0)))⟩:=by
 intro os γ0 γ _ hs hf;have hp:=hs.Aw h0;have cT:id<σ.aa.length:=(aY.1 ho).1;have cy:(σ.aa++[Ob.arr sz []])[id]?=some (.var cells):=by rw[dg cT];exact ho
 refine⟨{ γ with blk:=dM γ.blk σ.aa.length none },rfl,rfl,?_,(hf.trans (Fr.Aw _ _ _)).trans (Fr.LZ _ _ cy (cells':=cells.set c (.ref σ.aa.length sz 0 0)) G9)⟩;refine hp.LZ cy (cells':=cells.set c (.ref σ.aa.length sz 0 0)) G9 (λk v v' hv rH cv hr=>?_);rw[cm]at rH;split at rH
 ·rename_i e;subst e;split at rH
  ·simp only[dD.injEq]at rH;subst rH;have hk:cells[c]?=some v:=hv;rw[hc]at hk;simp only[dD.injEq]at hk;subst hk;rw[hr.dm];exact .nA _ _ (List.getElem?_concat_length ..) (by simp[dM])
  ·simp at rH
 ·have hk:cells[k]?=some v':=rH;have bW:cells[k]?=some v:=hv;rw[bW]at hk;simp only[dD.injEq]at hk;subst hk;exact hr
def ay.kQ(a id c sz:Nat){cells:List AV}{rows:List (List AV)}(ho:σ.aa[id]?=some (.var cells))(ha:σ.aa[a]?=some (.arr sz rows))(hc:cells[c]?=some (.ref a sz 0 rows.length))(hw:∀ row∈rows,row.length=sz)(mj:∀ row∈rows,∀ v∈row,(∃ x,v=.lit x)\/∃ s r,v=.tree s r):ay n0 σ ⟨σ.env,(σ.aa.set a .gone).set id (.var (cells.set c (.tree sz rows)))⟩:=by
 intro os γ0 γ _ hs hf;have EI:a≠id:=by intro e;subst e;rw[ho]at ha;simp at ha
 have AH:id<σ.aa.length:=(aY.1 ho).1;have gJ:a<σ.aa.length:=(aY.1 ha).1
 let aP:Cx:={ γ with Z:=λb=>γ.Z b\/∃ o cap,γ.blk a=some (b,o,cap) }
 let eD:=(σ.aa.set a .gone).set id (.var (cells.set c (.tree sz rows)))
 have iG:∀ i,eD[i]?=if i=id then some (.var (cells.set c (.tree sz rows))) else if i=a then some .gone else σ.aa[i]?:=by
  intro i;show((σ.aa.set a .gone).set id _)[i]?=_;rw[cm,cm];by_cases h1:i=id
  ·subst h1;simp[AH]
  ·by_cases h2:i=a
   ·subst h2;simp[Ne.symm h1,h1,gJ]
   ·simp[Ne.symm h1,Ne.symm h2,h1,h2]
 have hR:∀ v cv,aA σ.aa γ.w γ.Z γ.blk v cv->aA eD aP.w aP.Z aP.blk v cv:=λv cv hv =>
  hv.mono (λb hb=>⟨.inl hb,rfl⟩) (λi o hi=>by
   rw[iG];by_cases h1:i=id
   ·subst h1;rw[ho]at hi;simp only[dD.injEq]at hi;subst hi;right;exact⟨rfl,_,by rw[if_pos rfl],by simp[Ob.fj]⟩
   ·rw[if_neg h1];by_cases h2:i=a
    ·left;rw[if_pos h2]
    ·rw[if_neg h2];by_cases hg:o=.gone
     ·subst hg;exact .inl hi
     ·exact .inr ⟨rfl,o,hi,Ob.kK hg⟩)
 have c9:∀ i,Live eD i->Live σ.aa i/\i≠a:=by
  rintro i⟨o,hi,hg⟩;rw[iG]at hi;split at hi
  ·rename_i h1;subst h1;exact⟨⟨_,ho,G9⟩,Ne.symm EI⟩
  ·split at hi
   ·simp at hi;exact absurd hi.symm hg
   ·rename_i h2;exact⟨⟨o,hi,hg⟩,h2⟩
 have o7:Live σ.aa a:=⟨_,ha,G9⟩;refine⟨aP,rfl,rfl,⟨λk=>hR _ _ (hs.au k),?_,λi j b o c o' c' hi hj=>hs.inj i j b o c o' c' (c9 i hi).1 (c9 j hj).1,?_,?_,λg=>Cd (hs.gl g) λb hb=>⟨.inl hb,rfl⟩⟩,?_⟩
 ·intro i o hi;have hi':eD[i]?=some o:=hi;rw[iG]at hi';split at hi'
  ·rename_i h1;subst h1;simp only[dD.injEq]at hi';subst hi';obtain⟨b,cap,cur,t,h1,h2,h3,h4⟩:=hs.fF _ _ ho;refine⟨b,cap,cur,t,h1,h2,by simpa using h3,λk v hv=>?_⟩;rw[cm]at hv;split at hv
   ·rename_i e;subst e;split at hv
    ·simp only[dD.injEq]at hv;subst hv;have dV:cG σ (λx=>x≠a) (.tree sz rows) (.ref a sz 0 rows.length):=cG.flat ha hw rfl G9 mj;exact .cp _ _ (dV.Eb hs (γc:=aP) (λb hb=>.inl hb) rfl (λx b o cap cT _ hb=>.inr ⟨o,cap,by rw[show a=x by simpa using(Decidable.not_not.1 cT).symm];exact hb⟩) _ (h4 c _ hc))
    ·simp at hv
   ·exact hR _ _ (h4 k v hv)
  ·split at hi'
   ·simp only[dD.injEq]at hi';subst hi';trivial
   ·by_cases hg:o=.gone
    ·subst hg;trivial
    ·exact(hs.fF i o hi').mono hR rfl (λ_ _ _ _=>rfl)
 ·rintro b ⟨i,o,c',hi,hb⟩ (hz|⟨o',cap,cW⟩)
  ·exact hs.nz b ⟨i,o,c',(c9 i hi).1,hb⟩ hz
  ·exact(c9 i hi).2 (hs.inj i a b o c' o' cap (c9 i hi).1 o7 hb cW)
 ·rintro b (hz|⟨o,cap,hb⟩)
  ·exact hs.jm b hz
  ·exact hs.blt o7 hb
 ·refine⟨hf.nt,hf.tape,hf.output,hf.size,hf.aH,λb hb=>.inl (hf.z0 b hb),?_,?_,by show os.length<=eD.length;simp[eD];exact hf.len,?_,hf.drawn⟩
  ·rintro b (hz|⟨o,cap,hb⟩)
   ·exact hf.z1 b hz
   ·exact .inr (hf.own b ⟨a,o,cap,o7,hb⟩)
  ·rintro b ⟨i,o,c',hi,hb⟩;exact hf.own b ⟨i,o,c',(c9 i hi).1,hb⟩
  ·intro i hi hl;obtain⟨h1,x,x',hx,cV,hk⟩:=hf.lk i hi (c9 i hl).1;have Eo:=(c9 i hl).2;have jF:Live eD i:=hl;obtain⟨o,e9,tC⟩:=jF;refine⟨h1,x,o,hx,e9,?_⟩;rw[iG]at e9;split at e9
   ·rename_i e;subst e;rw[ho]at cV;simp only[dD.injEq]at cV e9;subst cV;subst e9;refine Ob.LU hk (by simp[Ob.fj])
   ·rw[cV]at e9;simp only[dD.injEq]at e9;subst e9;exact hk
end Go.Am

