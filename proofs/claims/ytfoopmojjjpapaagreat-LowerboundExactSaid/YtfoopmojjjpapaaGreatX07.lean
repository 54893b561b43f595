import Derived.Test.YtfoopmojjjpapaaGreatX06
import Derived.Laws.StructEq
set_option linter.all false
set_option maxHeartbeats 0
set_option maxRecDepth 20000
open List renaming all_eq_true→gd,mem_map→bS,getD_eq_getElem?_getD→ax,getElem?_append_left→eL,getElem?_append_right→gZ,range→bk,range'→nr,range_eq_range'→wj,range'_succ→xG,tail→EV,tail_drop→EW,getElem?_eq_some_iff→aR,getElem?_eq_getElem→bq,getElem?_set→bP,drop_drop→IN,take_append_drop→IH,map_cons→fP,contains_iff_mem→pY,mem_filter→y9,mem_range→nv
open Bool renaming and_eq_true→bg,false_eq_true→iZ,eq_iff_iff→nx
open Array renaming replicate→xK,getD_eq_getD_getElem?→eA,getElem?_append_left→EY,length_toList→tN,getElem?_eq_some_iff→nu
open Nat renaming lt_or_ge→du
open Option renaming some→cy
namespace Go.Am
variable {σ:St}
class Row {α:Type} (enc:α->List AV) (sz:outParam Nat):Prop where
 wid:∀ x,(enc x).length=sz
 ok:∀ x,∀ v∈enc x,(∃ y,v=.lit y/\y.oneCell'=true)\/∃ s r,v=.tree s r
def rowsOf{α:Type}(enc:α->List AV)(xs:List α):List (List AV):=xs.map enc
section
variable {α:Type} {enc:α->List AV} {sz:Nat}
def cr(xs:List α):(rowsOf enc xs).length=xs.length:=by simp[rowsOf]
def fK[Inhabited α](xs:List α)(i:Nat)(h:i<xs.length):(rowsOf enc xs).getD i []=enc (xs.getD i default):=by simp[rowsOf,h]
def J8[Inhabited α](xs:List α)(i:Nat)(h:i<xs.length):(rowsOf enc xs)[i]?=some (enc (xs.getD i default)):=by simp[rowsOf,h]
def QT(xs:List α):(rowsOf enc xs).take xs.length=rowsOf enc xs:=by rw[List.take_of_length_le (by simp[rowsOf])]
def J9(xs ys:List α):rowsOf enc xs++rowsOf enc ys=rowsOf enc (xs++ys):=by simp[rowsOf]
def zL(xs:List α)(x:α):rowsOf enc xs++[enc x]=rowsOf enc (xs++[x]):=by simp[rowsOf]
def QU[Row enc sz](x:α):(enc x).all cR=true:=by
 rw[gd];intro v hv;rcases Row.ok (enc:=enc) x v hv with⟨y,rfl,h⟩|⟨s,r,rfl⟩
 ·simpa [cR] using h
 ·rfl
def J'[Row enc sz](xs:List α):((rowsOf enc xs).all λrow=>row.all cR)=true:=by
 simp only[rowsOf,List.all_map,gd];intro x _;exact QU (enc:=enc) x
def adW{l:List AV}(h:∀ v∈l,lH v=true):mK l=true:=by
 induction l with
 |nil=>rfl
 |cons v l ih=>simp only[mK,bg];exact⟨h v IM,ih λx hx=>h x (by simp[hx])⟩
def adX[Row enc sz](x:α):mK (enc x)=true:=adW λv hv=>by
 rcases Row.ok (enc:=enc) x v hv with⟨y,rfl,_⟩|⟨s,r,rfl⟩<;>rfl
def mW[Row enc sz](ρ:Nat->Nat)(s:Nat)(xs:List α):bM ρ (.arr s (rowsOf enc xs))=.arr s (rowsOf enc xs):=Fm (by
 intro row hr;simp only[rowsOf,bS]at hr;obtain⟨x,_,rfl⟩:=hr;exact adX (enc:=enc) x)
def qB[Row enc sz](xs:List α):∀ row∈rowsOf enc xs,∀ v∈row,(∃ x,v=AV.lit x)\/∃ s r,v=AV.tree s r:=by
 intro row hr v hv;simp only[rowsOf,bS]at hr;obtain⟨x,_,rfl⟩:=hr;rcases Row.ok (enc:=enc) x v hv with⟨y,rfl,_⟩|h
 ·exact .inl ⟨_,rfl⟩
 ·exact .inr h
def kI[Row enc sz](xs:List α):∀ row∈rowsOf enc xs,row.length=sz:=by
 intro row hr;simp only[rowsOf,bS]at hr;obtain⟨x,_,rfl⟩:=hr;exact Row.wid (enc:=enc) x
end
structure cP where
 wk:Int
 day:Int
 st:Int
 len:Int
 room:Int
 ch:List (Int×Int)
 deriving Inhabited
structure Pr where
 fst:Int
 snd:Int
 dZ:Int
 aB:List Int
 deriving Inhabited
structure Ld where
 cls:Int
 opt:Int
 wt:Int
 deriving Inhabited
structure Ct where
 dZ:Int
 aZ:List Ld
 most:Int
 cf:Int
 deriving Inhabited
structure ah where
 cls:List (List cP)
 ae:List Pr
 aC:List Ct
 rules:Int
 deriving Inhabited
def i64(n:Int):AV:=Oi n
def dv(c:Int×Int):List AV:=[Oi c.1,Oi c.2]
def dK(o:cP):List AV:=[Oi o.wk,Oi o.day,Oi o.st,Oi o.len,Oi o.room,.tree 2 (rowsOf dv o.ch)]
def aV(l:List cP):List AV:=[.tree 6 (rowsOf dK l)]
def aG(p:Pr):List AV:=[Oi p.fst,Oi p.snd,Oi p.dZ,.tree 1 (ints p.aB)]
def qC(l:Ld):List AV:=[Oi l.cls,Oi l.opt,Oi l.wt]
def df(c:Ct):List AV:=[Oi c.dZ,.tree 3 (rowsOf qC c.aZ),Oi c.most,Oi c.cf]
def aq(m:ah):List AV:=[.tree 1 (rowsOf aV m.cls),.tree 4 (rowsOf aG m.ae),.tree 4 (rowsOf df m.aC),Oi m.rules]
def zM{l:List AV}(h:(l.all λv=>match v with|.lit y=>y.oneCell'|.tree ..=>true|_=>false)=true):∀ v∈l,(∃ y,v=AV.lit y/\y.oneCell'=true)\/∃ s r,v=AV.tree s r:=by
 intro v hv;have:=gd.1 h v hv;cases v<;>simp at this
 ·exact .inl ⟨_,rfl,this⟩
 ·exact .inr ⟨_,_,rfl⟩
instance:Row dv 2:=⟨λ_=>rfl,λ_=>zM rfl⟩
instance:Row dK 6:=⟨λ_=>rfl,λ_=>zM rfl⟩
instance:Row aV 1:=⟨λ_=>rfl,λ_=>zM rfl⟩
instance:Row aG 4:=⟨λ_=>rfl,λ_=>zM rfl⟩
instance:Row qC 3:=⟨λ_=>rfl,λ_=>zM rfl⟩
instance:Row df 4:=⟨λ_=>rfl,λ_=>zM rfl⟩
instance:Row aq 4:=⟨λ_=>rfl,λ_=>zM rfl⟩
end Go.Am
namespace Go.Am
variable {P:Program}
variable {N n0:Nat} {Q:Exit->St->Prop} {σ:St}
def kJ(P:Program)(n0:Nat)(rs:List ResultVar)(ic:AV->List Ob->Prop):Exit->St->Prop
 |.normal,s=>gm s P rs λvs=>∃ res ba,ic res ba/\nD n0 s (fW vs) res ba
 |.ret,s=>gm s P rs λvs=>∃ res ba,ic res ba/\nD n0 s (fW vs) res ba
 |_,_=>False
def dy.JC {f : FuncId} {fn : Func} {c : Code} {args : List AV} {aa : List Ob} {ic : AV -> List Ob -> Prop} (hf : P.funcs[f]? = some fn) (hb : fn.body = some c) (rC : (fn.name == "runtime.NumGoroutine") = false)
  (hN:args.length<=fn.ntmps) (h:W P fn.ntmps aa.length c (kJ P aa.length fn.results.toList ic) ⟨λk=>args.getD k .undef,aa⟩):dy P f args aa ic:=by
 refine⟨⟨fn,hf,rC,by rw[hb];rfl⟩,?_⟩;intro γ aJ hs;refine calls_of_wp hf hb ?_
 let tm:=γ.tmps++xK (fn.ntmps-γ.tmps.size) Go.undef
 have aA:h9 fn.ntmps aa γ ⟨λk=>args.getD k .undef,aa⟩ { tmps:=tm,defers:=[] } γ.w:=by
  refine⟨rfl,by simp[tm];omega,{ γ with tmps:=tm },rfl,rfl,⟨λk=>?_,hs.dx,hs.inj,hs.nz,hs.fV,hs.gl⟩,(Fr.refl _ _).put _⟩;rcases du k args.length with hk|hk
  ·have:=hs.ao k;have e:tm.getD k Go.undef=γ.tmps.getD k Go.undef:=by
    simp only[tm,eA];rw[EY AT]
   show aw _ _ _ _ _ (tm.getD k Go.undef);rw[e];exact this
  ·have e:args.getD k AV.undef=.undef:=by simp[hk]
   show aw _ _ _ _ (args.getD k .undef) _;rw[e];exact .undef _
 refine wp_mono (h aa γ _ γ.w rfl aA) ?_;rintro e a' w'⟨σ',h1,gH,_,az,rfl,ha,iz,eR⟩;have fin:∀ (K:List AV->Prop),gm σ' P fn.results.toList K->(∀ vs,K vs->∃ res ba,ic res ba/\nD aa.length σ' (fW vs) res ba) ->
   a'.defers=[]/\∃ v,(results fn a'.tmps).run P az.w=.ok v az.w/\∃ res ba cv jg,ic res ba/\Ending.returned v=.returned cv/\jg.w=az.w/\jg.tmps = #[cv]/\bh ⟨λk=>[res].getD k .undef,ba⟩ jg/\Fr aa γ ba jg:=by
  intro K hK JD;obtain⟨vs,bd,k1,k2,k3,k4,k5⟩:=Fz iz _ _ hK;obtain⟨res,ba,Jw,aj,snap,r1,r2,r3,r4,r5,r6,r7⟩:=JD vs k1;refine⟨gH,?_⟩;have eF :∃v,(results fn a'.tmps).run P az.w=.ok v az.w/\aw σ'.aa az.w az.Z az.blk (fW vs) v:=by
   have hm:(fn.results.mapM λ(r:ResultVar)=>match r with|.tmp t=>(pure (a'.tmps.getD t Go.undef):Sem Value)|.cell a t=>do loadVar t (← asAddr (a'.tmps.getD a Go.undef))).run P az.w=.ok bd.toArray az.w:=by
    rw[Array.mapM_eq_mapM_toList,Sem.run_map,<- ha];exact congrArg (λ(r:Result (List Value))=>r.andThen λa w'=>Result.ok a.toArray w') k2
   have hr:(results fn a'.tmps).run P az.w=.ok (if h:bd.toArray.size=1 then bd.toArray[0] else .tuple bd.toArray) az.w:=by
    unfold results;rw[Sem.run_bind];exact congrArg (λr=>Result.andThen r λ(a:Array Value) w'=>(pure (if h:a.size=1 then a[0] else Value.tuple a):Sem Value).run P w') hm
   rw[hr]
   match vs,bd,k3,k5 with
   |[],[],_,k5=>exact⟨_,rfl,.bu _ _ rfl (λj x hj=>by simp at hj)⟩
   |[v],[cv],_,k5=>exact⟨cv,IM,by simpa [fW] using k5 0 v rfl⟩
   |v::v'::vs,cv::pj::bd,k3,k5 =>
    refine⟨.tuple (cv::pj::bd).toArray,IM,.bu _ _ (by simpa using k3) (λj x hj=>?_)⟩;have:=k5 j x hj;simpa [ax,eA] using this
  obtain⟨v,oh,x8⟩:=eF;obtain⟨jg,e1,e2,e3,e4⟩:=iz.select aj snap ba r1 r2 r3 r4 (λk=>[res].getD k .undef) #[v] (λk=>by
   cases k with
   |zero=>exact .inr ⟨_,r7,by simpa using x8⟩
   |succ k=>left;simp)
  exact⟨v,oh,res,ba,v,jg,Jw,rfl,e1,e2,e3,eR.select r5 r2 r6 e1 e4⟩
 cases e with
 |normal=>exact fin _ h1 (λ_ h=>h)
 |ret=>exact fin _ h1 (λ_ h=>h)
 |exit id=>exact h1.elim
 |goto l=>exact h1.elim
 |panic c=>exact h1.elim
 |outgrown=>exact h1.elim
theorem dy.aN {f:FuncId} {fn:Func} {c:Code} {args:List AV} {aa:List Ob} {ic:AV -> List Ob -> Prop} (N k:Nat) (rs:List ResultVar) (hf:P.funcs[f]?=some fn) (h:W P N k c (kJ P k rs ic) ⟨fun k=>args.getD k .undef,aa⟩) (hb:fn.body=some c:=by rfl) (rC:(fn.name=="runtime.NumGoroutine")=false:=by rfl) (hN:fn.ntmps=N:=by rfl) (sQ:fn.results.toList=rs:=by rfl) (hk:aa.length=k:=by rfl) (hl:args.length<=N:=by simp):dy P f args aa ic:=by
 subst hN;subst sQ;subst hk;exact dy.JC hf hb rC hl h
def kK(P:Program)(g:FuncId)(args:List AV)(dst:Option Tmp)(K:St->Prop)(σ:St):Prop:=Js P g args σ λv σ'=>K (σ'.put dst v)
def Dj(P:Program)(o:Oper)(K:St->Prop)(σ:St):Prop :=
 o.guard=none /\
 match o.op with
 |.call { callee:=.value f,args,.. } =>
  match ev σ f with
  |.fn g bF=>kK P g (args.toList.map (ev σ)++bF) o.dst K σ
  |_=>False
 |_=>False
def QV{os:List Ob}{γ0:Cx}{o:Oper}{K:St->Prop}(h:Dj P o K σ){a:Act}{w:World}(aA:h9 N os γ0 σ a w)(hd:∀ d,o.dst=some d->d<N){Q:Exit->Act->World->Prop}{next:Act->World->Prop}(hn:∀ σ' a' w',K σ'->h9 N os γ0 σ' a' w'->next a' w'):o.wp P a w next Q:=by
 obtain⟨gH,aJ,γ,rfl,ha,hs,hf⟩:=aA;have wE:∀ d,o.dst=some d->d<a.tmps.size:=λd h=>by rw[aJ];exact hd d h
 obtain⟨_,h⟩:=h;split at h
 ·rename_i f args dh dt;split at h
  ·rename_i g bF he;have ef:=sN hs ha f;rw[he]at ef;obtain⟨bd,aQ,gG,rB⟩:=ef.Qt;have nB:∀ (j:Nat) d,(args.toList.map (ev σ)++bF)[j]?=some d->aw σ.aa γ.w γ.Z γ.blk d (((args.map a.eval)++bd).getD j Go.undef):=by
    intro j d hj;simp only[eA];rcases du j args.size with aS|gM
    ·rw[eL (by simpa using aS)]at hj;rw[EY (by simpa using aS)];simp only[List.getElem?_map,Array.getElem?_toList,Array.getElem?_map]at hj ⊢;cases hx:args[j]? with
     |none=>simp[hx]at hj
     |some y=>simp[hx]at hj ⊢;subst hj;exact sN hs ha y
    ·rw[gZ (by simpa using gM)]at hj;rw[Array.getElem?_append_right (by simpa using gM)];simp only[List.length_map,tN,Array.size_map]at hj ⊢;have:=rB _ d hj;simpa [eA] using this
   unfold kK at h;have od:=Qm hs (argv:=(args.map a.eval)++bd) (by simp[gG]) nB h;obtain⟨aj,snap,eN,bU,ic,⟨⟨fn,wF,rC,x7⟩,_⟩,_⟩:=h;unfold Oper.wp;have hr:(execOp a.eval o).run P γ.w=.ok (.enter g ((args.map a.eval)++bd)) γ.w:=by
    have k9 : ¬ fn.name = "runtime.NumGoroutine" := by simpa using rC
    have nI:¬ fn.body=none:=by intro e;rw[e]at x7;simp at x7
    simp[execOp,dt,resolve,aQ,Deferred.ofValue,invoke,callFunc,wF,k9,nI]
   rw[hr];show Calls P g _ _ _;refine od.mono ?_;rintro e w'⟨cv,v,σ',az,rfl,rfl,jM,iz,eR,hv,hK,sP⟩;refine hn _ _ _ hK ⟨by rw[put_defers];exact gH,by rw[tZ];exact aJ,{ az with tmps:=(a.put o.dst cv).tmps },rfl,rfl,rm iz (by rw[jM,ha]) wE hv,?_⟩;rw[qh];exact(hf.trans eR).put _
  ·exact h.elim
 ·exact h.elim
def QW(n:Nat){id:Nat}{ops:Array Oper}{y:Code}(hd:fU N ops=true)(o:Oper)(ho:ops[n]?=some o)(h:∀ K:St->Prop,(∀ s,W P N n0 y Q s->K s)->opsL P ops (ops.toList.take n) (Dj P o (opsL P ops (ops.toList.drop (n+1)) K)) σ):W P N n0 (.seq (.region id ops false) y) Q σ:=by
 refine Fj ?_;intro os γ0 a w hn aA;refine wp_region ?_;have rA:n<ops.size:=(nu.1 ho).1;have e:bk ops.size=nr 0 (ops.toList.take n).length++(n::nr (n+1) (ops.toList.drop (n+1)).length):=by
  rw[wj,<- xG];have:=List.range'_append (s:=0) (m:=n) (n:=(ops.toList.drop (n+1)).length+1) (step:=1);simp only[Nat.zero_add,Nat.one_mul]at this;rw[show(ops.toList.take n).length=n by simp;omega,this];congr 1;simp;omega
 rw[e];refine A5 _ a w ?_;refine vb (ud hd) (K:=Dj P o (opsL P ops (ops.toList.drop (n+1)) (W P N n0 y Q))) (λσ' a' w' hk dj=>?_) (ops.toList.take n) 0 σ a w (λk hk=>?_) (h _ (λ_ h=>h)) aA
 ·show wpOps P ops _ _ a' w';rw[wpOps_cons];unfold wpOp;simp only[ho];have hw:Region.wanted o (yielded ops a'.tmps)=true:=by simp[Region.wanted,hk.1]
  rw[if_pos hw];left;refine QV hk dj (ud hd o (List.mem_of_getElem? (by simpa using ho))) (λσ2 a2 w2 cE Ka=>?_);refine vb (ud hd) (K:=W P N n0 y Q) (λKb a3 w3 mX Kd=>⟨Kb,mX,Kd⟩) (ops.toList.drop (n+1)) (n+1) σ2 a2 w2 (λk hk=>?_) cE Ka;rw[List.getElem?_drop];simp
 ·simp only[List.length_take,tN]at hk;rw[List.getElem?_take_of_lt AT];simp
def FV(aj:List Nat){f:FuncId}{args eN:List AV}{bU:List Ob}{dst:Option Tmp}{K:St->Prop}{ic:AV->List Ob->Prop}(h:dy P f eN bU ic)(bx:aj.Nodup)(ho:xS (bC σ.aa.length aj) σ.aa aj bU)(ha:mf (bT σ (·∈aj) (bC σ.aa.length aj) false) eN args)(hK:∀ res cV,ic res cV->K (({ σ with aa:=gf σ.aa aj (cV.map (bM (bC σ.aa.length aj))) }:St).put dst (bj (bC σ.aa.length aj) res))):kK P f args dst K σ:=by
 obtain⟨h1,h2⟩:=ho.spec;obtain⟨h3,h4⟩:=ha.spec;exact⟨aj,false,eN,bU,ic,h,⟨bx,h1,h2,h3,h4⟩,λres cV hp=>⟨IM,hK res cV hp⟩⟩
end Go.Am
namespace Go.Am
variable {P:Program} {N n0:Nat} {σ:St} {Q:Exit->St->Prop}
def rH(P:Program)(ops:Array Oper)(qs:List Nat):Nat->List Oper->(St->Prop)->St->Prop
 |_,[],K,σ=>K σ
 |i,o::r,K,σ=>dY P ops (qs.contains i) o (rH P ops qs (i+1) r K) σ
def QX{ops:Array Oper}{qs:List Nat}{i:Nat}{K:St->Prop}:rH P ops qs i [] K σ=K σ:=by simp only[rH]
def FY{ops:Array Oper}{qs:List Nat}{i:Nat}{o:Oper}{r:List Oper}{K:St->Prop}:rH P ops qs i (o::r) K σ=dY P ops (qs.contains i) o (rH P ops qs (i+1) r K) σ:=by simp only[rH]
def Ke{ops:Array Oper}{qs:List Nat}{K:St->Prop}:∀ (l:List Oper) (i:Nat) (σ:St),ops.toList.drop i=l->rH P ops qs i l K σ->jA P ops qs (jB (nr i l.length)) K σ
 |[],i,σ,_,h=>h
 |o::r,i,σ,hl,h=>by
  have hi:ops[i]?=some o:=by
   have:(ops.toList.drop i)[0]?=some o:=by rw[hl];rfl
   simpa using this
  have hr:ops.toList.drop (i+1)=r:=by
   have:=congrArg EV hl;simpa [EW] using this
  rw[List.length_cons,xG];show cj P ops qs i (jA P ops qs (jB (nr (i+1) r.length)) K) σ;unfold cj;simp only[hi];have hm:∀ s,rH P ops qs (i+1) r K s->jA P ops qs (jB (nr (i+1) r.length)) K s:=λs hs=>Ke r (i+1) s hr hs;exact CT hm h
def FZ(ops:Array Oper)(qs:List Nat):Bool:=(jB (bk ops.size)).ok ops qs ops.size (xK ops.size false)
def QY{id:Nat}{ops:Array Oper}{y:Code}(qs:List Nat)(hm:P.follows .mixedOrders=true)(hd:fU N ops=true)(ht:FZ ops qs=true)(h:∀ K:St->Prop,(∀ s,W P N n0 y Q s->K s)->rH P ops qs 0 ops.toList K σ):
  W P N n0 (.seq (.region id ops true) y) Q σ :=
 Qa qs _ hm hd ht λK hK=>by
  have:=Ke (P:=P) (ops:=ops) (qs:=qs) ops.toList 0 σ rfl (h K hK);rw[wj];simpa using this
def F1{id:Nat}{ops:Array Oper}(qs:List Nat)(hm:P.follows .mixedOrders=true)(hd:fU N ops=true)(ht:FZ ops qs=true)(h:∀ K:St->Prop,(∀ s,Q .normal s->K s)->rH P ops qs 0 ops.toList K σ):
  W P N n0 (.region id ops true) Q σ :=
 lI qs _ hm hd ht (by
  have:=Ke (P:=P) (ops:=ops) (qs:=qs) ops.toList 0 σ rfl (h _ (λ_ h=>h));rw[wj];simpa using this)
def cm{f:FuncId}{args:List AV}{dst:Option Tmp}{K:St->Prop}{res:AV}(h:Holds P f args [] res [])(ha:mK args=true)(hr:lH res=true)(hK:K (σ.put dst res)):I7 P f args dst K σ :=
 ⟨res,h,ha,hr,hK⟩
end Go.Am
namespace Go.Am
variable {P:Program} {N n0:Nat} {σ:St} {Q:Exit->St->Prop}
def bh.Kg{σ:St}{γ:Cx}(h:bh σ γ){id:Nat}{cells cells':List AV}(ho:σ.aa[id]?=some (.var cells))(hl:cells'.length=cells.length)(hc:∀ (c:Nat) v v',cells[c]?=some v->cells'[c]?=some v'->∀ cv,aw σ.aa γ.w γ.Z γ.blk v cv->aw σ.aa γ.w γ.Z γ.blk v' cv):bh ⟨σ.env,σ.aa.set id (.var cells')⟩ γ:=by
 obtain⟨b,cap,cur,t,h1,h2,h3,h4⟩:=h.dx id _ ho;have:=h.write (ob':=.var cells') ho IM (by simp[Ob.dI,hl]) h1 (w':=γ.w) h2 (λ_ _=>rfl) rfl ⟨rfl,by rw[h3,hl],λc v hv=>?_⟩
 ·exact this
 ·have aS:c<cells.length:=by rw[<- hl];exact(aR.1 hv).1
  exact hc c _ v (bq aS) hv _ (h4 c _ (bq aS))
def Fr.Kg(os:List Ob)(γ:Cx){id:Nat}{cells cells':List AV}(ho:os[id]?=some (.var cells))(hl:cells'.length=cells.length):Fr os γ (os.set id (.var cells')) γ where
 kD:=rfl
 tape:=rfl
 output:=rfl
 size:=Nat.le_refl _
 dN:=λ_ _ _=>rfl
 z0:=λ_ h=>h
 z1:=λ_ h=>.inl h
 own:=by
  rintro b⟨i,o,c,⟨x,hx,eC⟩,hb⟩;rw[bP]at hx;split at hx
  ·rename_i e;subst e;exact .inl ⟨id,o,c,⟨_,ho,IM⟩,hb⟩
  ·exact .inl ⟨i,o,c,⟨x,hx,eC⟩,hb⟩
 len:=IM
 dV:=by
  rintro i hi⟨x,hx,eC⟩;have hx0:=hx;rw[bP]at hx;split at hx
  ·rename_i e;subst e;exact⟨rfl,.var cells,.var cells',ho,by rw[bP];simp[hi],by simp[Ob.dI,hl]⟩
  ·exact⟨rfl,x,x,hx,hx0,Ob.jh eC⟩
def aF.sV(id c sz:Nat){cells:List AV}(ho:σ.aa[id]?=some (.var cells))(hc:cells[c]?=some (.lit (.slice none 0 0)))(h0:0<sz):
  aF n0 σ ⟨σ.env,(σ.aa++[Ob.arr sz []]).set id (.var (cells.set c (.ref σ.aa.length sz 0 0)))⟩:=by
 intro os γ0 γ _ hs hf;have hp:=hs.zx h0;have b9:id<σ.aa.length:=(aR.1 ho).1;have cJ:(σ.aa++[Ob.arr sz []])[id]?=some (.var cells):=by rw[eL b9];exact ho
 refine⟨{ γ with blk:=cW γ.blk σ.aa.length none },rfl,rfl,?_,(hf.trans (Fr.zx _ _ _)).trans (Fr.Kg _ _ cJ (cells':=cells.set c (.ref σ.aa.length sz 0 0)) IM)⟩;refine hp.Kg cJ (cells':=cells.set c (.ref σ.aa.length sz 0 0)) IM (λk v v' hv qn cv hr=>?_);rw[bP]at qn;split at qn
 ·rename_i e;subst e;split at qn
  ·simp only[cy.injEq]at qn;subst qn;have hk:cells[c]?=some v:=hv;rw[hc]at hk;simp only[cy.injEq]at hk;subst hk;rw[hr.cD];exact .lJ _ _ (List.getElem?_concat_length ..) (by simp[cW])
  ·simp at qn
 ·have hk:cells[k]?=some v':=qn;have cE:cells[k]?=some v:=hv;rw[cE]at hk;simp only[cy.injEq]at hk;subst hk;exact hr
def aF.ye(a id c sz:Nat){cells:List AV}{rows:List (List AV)}(ho:σ.aa[id]?=some (.var cells))(ha:σ.aa[a]?=some (.arr sz rows))(hc:cells[c]?=some (.ref a sz 0 rows.length))(hw:∀ row∈rows,row.length=sz)(u3:∀ row∈rows,∀ v∈row,(∃ x,v=.lit x)\/∃ s r,v=.tree s r):aF n0 σ ⟨σ.env,(σ.aa.set a .gone).set id (.var (cells.set c (.tree sz rows)))⟩:=by
 intro os γ0 γ _ hs hf;have zN:a≠id:=by intro e;subst e;rw[ho]at ha;simp at ha
 have zO:id<σ.aa.length:=(aR.1 ho).1;have j5:a<σ.aa.length:=(aR.1 ha).1
 let az:Cx:={ γ with Z:=λb=>γ.Z b\/∃ o cap,γ.blk a=some (b,o,cap) }
 let os2:=(σ.aa.set a .gone).set id (.var (cells.set c (.tree sz rows)))
 have ij:∀ i,os2[i]?=if i=id then some (.var (cells.set c (.tree sz rows))) else if i=a then some .gone else σ.aa[i]?:=by
  intro i;show((σ.aa.set a .gone).set id _)[i]?=_;rw[bP,bP];by_cases h1:i=id
  ·subst h1;simp[zO]
  ·by_cases h2:i=a
   ·subst h2;simp[Ne.symm h1,h1,j5]
   ·simp[Ne.symm h1,Ne.symm h2,h1,h2]
 have hR:∀ v cv,aw σ.aa γ.w γ.Z γ.blk v cv->aw os2 az.w az.Z az.blk v cv:=λv cv hv =>
  hv.mono (λb hb=>⟨.inl hb,rfl⟩) (λi o hi=>by
   rw[ij];by_cases h1:i=id
   ·subst h1;rw[ho]at hi;simp only[cy.injEq]at hi;subst hi;right;exact⟨rfl,_,by rw[if_pos rfl],by simp[Ob.dI]⟩
   ·rw[if_neg h1];by_cases h2:i=a
    ·left;rw[if_pos h2]
    ·rw[if_neg h2];by_cases hg:o=.gone
     ·subst hg;exact .inl hi
     ·exact .inr ⟨rfl,o,hi,Ob.jh hg⟩)
 have bN:∀ i,Live os2 i->Live σ.aa i/\i≠a:=by
  rintro i⟨o,hi,hg⟩;rw[ij]at hi;split at hi
  ·rename_i h1;subst h1;exact⟨⟨_,ho,IM⟩,Ne.symm zN⟩
  ·split at hi
   ·simp at hi;exact absurd hi.symm hg
   ·rename_i h2;exact⟨⟨o,hi,hg⟩,h2⟩
 have ov:Live σ.aa a:=⟨_,ha,IM⟩;refine⟨az,rfl,rfl,⟨λk=>hR _ _ (hs.ao k),?_,λi j b o c o' c' hi hj=>hs.inj i j b o c o' c' (bN i hi).1 (bN j hj).1,?_,?_,λg=>xY (hs.gl g) λb hb=>⟨.inl hb,rfl⟩⟩,?_⟩
 ·intro i o hi;have ar:os2[i]?=some o:=hi;rw[ij]at ar;split at ar
  ·rename_i h1;subst h1;simp only[cy.injEq]at ar;subst ar;obtain⟨b,cap,cur,t,h1,h2,h3,h4⟩:=hs.dx _ _ ho;refine⟨b,cap,cur,t,h1,h2,by simpa using h3,λk v hv=>?_⟩;rw[bP]at hv;split at hv
   ·rename_i e;subst e;split at hv
    ·simp only[cy.injEq]at hv;subst hv;have ef:dF σ (λx=>x≠a) (.tree sz rows) (.ref a sz 0 rows.length):=dF.flat ha hw rfl IM u3;exact .cC _ _ (ef.zq hs (γc:=az) (λb hb=>.inl hb) rfl (λx b o cap b9 _ hb=>.inr ⟨o,cap,by rw[show a=x by simpa using(Decidable.not_not.1 b9).symm];exact hb⟩) _ (h4 c _ hc))
    ·simp at hv
   ·exact hR _ _ (h4 k v hv)
  ·split at ar
   ·simp only[cy.injEq]at ar;subst ar;trivial
   ·by_cases hg:o=.gone
    ·subst hg;trivial
    ·exact(hs.dx i o ar).mono hR rfl (λ_ _ _ _=>rfl)
 ·rintro b ⟨i,o,c',hi,hb⟩ (hz|⟨o',cap,aY⟩)
  ·exact hs.nz b ⟨i,o,c',(bN i hi).1,hb⟩ hz
  ·exact(bN i hi).2 (hs.inj i a b o c' o' cap (bN i hi).1 ov hb aY)
 ·rintro b (hz|⟨o,cap,hb⟩)
  ·exact hs.fV b hz
  ·exact hs.blt ov hb
 ·refine⟨hf.kD,hf.tape,hf.output,hf.size,hf.dN,λb hb=>.inl (hf.z0 b hb),?_,?_,by show os.length<=os2.length;simp[os2];exact hf.len,?_,hf.drawn⟩
  ·rintro b (hz|⟨o,cap,hb⟩)
   ·exact hf.z1 b hz
   ·exact .inr (hf.own b ⟨a,o,cap,ov,hb⟩)
  ·rintro b ⟨i,o,c',hi,hb⟩;exact hf.own b ⟨i,o,c',(bN i hi).1,hb⟩
  ·intro i hi hl;obtain⟨h1,x,x',hx,bW,hk⟩:=hf.dV i hi (bN i hl).1;have C6:=(bN i hl).2;have jO:Live os2 i:=hl;obtain⟨o,dz,nY⟩:=jO;refine⟨h1,x,o,hx,dz,?_⟩;rw[ij]at dz;split at dz
   ·rename_i e;subst e;rw[ho]at bW;simp only[cy.injEq]at bW dz;subst bW;subst dz;refine Ob.FU hk (by simp[Ob.dI])
   ·rw[bW]at dz;simp only[cy.injEq]at dz;subst dz;exact hk
end Go.Am
namespace Go.Am
variable {P:Program}
def yf(P:Program):List Field->Nat->Nat->Bool
 |[],o,n=>o==n
 |f::fs,o,n=>f.offset==o&&yf P fs (o+P.cellsOf f.type) n
def vo(P:Program):Nat->TypeId->Bool
 |0,_=>false
 |d+1,t =>
  match P.underlying t with
  |some (.int .i64)=>P.cellsOf t==1
  | some (.struct fs) => (P.info? t).isSome && !P.stoodInHeld t && yf P fs.toList 0 (P.cellsOf t) && fs.toList.all λf => f.name != "_" && vo P d f.type
  |_=>false
def vp(P:Program)(t:TypeId)(xs:List Int):Value :=
 match P.underlying t with
 |some (.struct _)=>.agg (xs.map (Value.int .i64)).toArray
 |_=>.int .i64 (xs.getD 0 0)
def QZ{as bs:List Int}{o c:Nat}(h:as.length=bs.length):as.drop o=bs.drop o↔(as.drop o).take c=(bs.drop o).take c/\as.drop (o+c)=bs.drop (o+c):=by
 constructor
 ·intro e;refine⟨by rw[e],?_⟩;rw[<- IN,<- IN,e]
 ·rintro⟨e1,e2⟩;rw[<- IN,<- IN]at e2;rw[<- IH c (as.drop o),<- IH c (bs.drop o),e1,e2]
def Q3(w:World){d:Nat}{t:TypeId}(h:vo P d t=true){as:List Int}{o:Nat}(ho:o+P.cellsOf t<=as.length):
  (part t (as.map (Value.int .i64)).toArray o).run P w=.ok (vp P t ((as.drop o).take (P.cellsOf t))) w:=by
 cases d with
 |zero=>simp[vo]at h
 |succ d =>
  unfold vo at h;cases hu:P.underlying t with
  |none=>simp[hu]at h
  |some k =>
   rw[hu]at h;cases k<;>try(simp at h;done)
   case int q =>
    cases q<;>try(simp at h;done)
    have hc:P.cellsOf t=1:=by simpa using h
    rw[hc]at ho;have hx:((as.map (Value.int .i64)).toArray)[o]?=some (.int .i64 (as.getD o 0)):=by
     have:o<as.length:=AT;simp[this]
    simp only[part,isAgg,Sem.run_bind,run_underlying hu,Result.andThen_ok,Sem.run_pure,iZ,if_false,Sem.run_ite,hx];have:o<as.length:=AT;simp[vp,hu,hc,this]
   case struct fs =>
    simp only[bg]at h;obtain⟨i,hi⟩:=Option.isSome_iff_exists.1 h.1.1.1;have hs:∀ w,(sizeOf t).run P w=.ok (P.cellsOf t) w:=λw=>by
     simp[sizeOf,typeInfo,Program.cellsOf,hi,run_program]
    simp only[part,isAgg,Sem.run_bind,run_underlying hu,Result.andThen_ok,Sem.run_pure,if_true,Sem.run_ite,hs];simp only[vp,hu];congr 2;simp[List.map_take,List.map_drop]
def Q4{D d:Nat}(ih:∀ t,vo P d t=true->∀ (w:World) (as bs:List Int),as.length=P.cellsOf t->bs.length=P.cellsOf t->(Op.equalIn (D+d) t (vp P t as) (vp P t bs)).run P w=.ok (decide (as=bs)) w){as bs:List Int}(hl:as.length=bs.length):
  ∀ (fs : List Field) (o : Nat) (w : World), yf P fs o as.length = true -> (fs.all λf => f.name != "_" && vo P d f.type) = true ->
   o+(fs.map λf=>P.cellsOf f.type).sum=as.length->(Op.eqFields (D+d) (as.map (Value.int .i64)).toArray (bs.map (Value.int .i64)).toArray fs).run P w=.ok (decide (as.drop o=bs.drop o)) w
 |[],o,w,ht,_,hs=>by
  have:o=as.length:=by simpa [yf] using ht
  subst this;have:bs.drop as.length=[]:=List.drop_eq_nil_of_le AT;simp[Op.eqFields,this]
 |f::fs,o,w,ht,ha,hs=>by
  simp only[yf,bg,beq_iff_eq]at ht;obtain⟨rfl,ht⟩:=ht;simp only[List.all_cons,bg,bne_iff_ne]at ha;simp only[fP,List.sum_cons]at hs;have h1:=Q3 (as:=as) w ha.1.2 (o:=f.offset) AT;have h2:=Q3 (as:=bs) w ha.1.2 (o:=f.offset) AT;have h3:=ih f.type ha.1.2 w ((as.drop f.offset).take (P.cellsOf f.type)) ((bs.drop f.offset).take (P.cellsOf f.type)) N0 N0;have h4:=Q4 ih hl fs (f.offset+P.cellsOf f.type) w ht ha.2 AT;simp only[Op.eqFields];rw[if_pos ha.1.1];simp only[Sem.run_bind,h1,h2,h3,Result.andThen_ok,Sem.run_ite,Sem.run_pure,h4];by_cases he:(as.drop f.offset).take (P.cellsOf f.type)=(bs.drop f.offset).take (P.cellsOf f.type)
  ·rw[decide_eq_true he];simp only[Bool.not_true,iZ,if_false];congr 1;rw[decide_eq_decide,QZ (o:=f.offset) (c:=P.cellsOf f.type) hl];simp[he]
  ·rw[decide_eq_false he];simp only[Bool.not_false,if_true];congr 1;rw[eq_comm,decide_eq_false_iff_not,QZ (o:=f.offset) (c:=P.cellsOf f.type) hl];exact λh=>he h.1
def Q5:∀ (fs:List Field) (o n:Nat),yf P fs o n=true->o+(fs.map λf=>P.cellsOf f.type).sum=n
 |[],o,n,h=>by simpa [yf] using h
 |f::fs,o,n,h=>by
  simp only[yf,bg,beq_iff_eq]at h;have:=Q5 fs _ n h.2;simp only[fP,List.sum_cons];omega
def Q6(D:Nat):∀ (d:Nat) (t:TypeId),vo P d t=true->∀ (w:World) (as bs:List Int),as.length=P.cellsOf t->bs.length=P.cellsOf t->(Op.equalIn (D+d) t (vp P t as) (vp P t bs)).run P w=.ok (decide (as=bs)) w
 |0,t,h=>by simp[vo]at h
 |d+1,t,h=>by
  intro w as bs ha hb;unfold vo at h;cases hu:P.underlying t with
  |none=>simp[hu]at h
  |some k =>
   rw[hu]at h;cases k<;>try(simp at h;done)
   case int q =>
    cases q<;>try(simp at h;done)
    have hc:P.cellsOf t=1:=by simpa using h
    rw[hc]at ha hb
    match as,bs,ha,hb with
    |[a],[b],_,_ =>
     simp only[vp,hu,List.getD_cons_zero];rw[show D+(d+1)=(D+d)+1 from rfl,run_equalIn_int w (D+d) t .i64 .i64 a b hu];congr 1;rw[nx];simp
   case struct fs =>
    simp only[bg,Bool.not_eq_true']at h;have hf:P.fieldsOf t=fs:=by simp[Program.fieldsOf,hu]
    simp only[vp,hu];rw[show D+(d+1)=(D+d)+1 from rfl,run_equalIn_struct w (D+d) t _ _ (by rw[hf];exact hu) h.1.1.2,hf];have:=Q4 (D:=D) (Q6 D d) (as:=as) (bs:=bs) AT fs.toList 0 w (by rw[ha];exact h.1.2) h.2 (by rw[ha];exact Q5 _ _ _ h.1.2);simpa using this
def F3(P:Program)(d:Nat)(t:TypeId)(n:Nat):Bool :=
 (match P.underlying t with|some (.struct _)=>true|_=>false)&&decide (d<=10000)&&vo P d t&&(P.cellsOf t==n)
def u7.of{t:TypeId}(d:Nat){n:Nat}(h:F3 P d t n=true):u7 P t n:=by
 intro w as bs ha hb;simp only[F3,bg,decide_eq_true_eq,beq_iff_eq]at h;obtain⟨⟨⟨h1,hd⟩,h2⟩,h3⟩:=h;have:=Q6 (10000-d) d t h2 w as bs AT AT;rw[Nat.sub_add_cancel hd]at this;cases hu:P.underlying t with
 |none=>rw[hu]at h1;simp at h1
 |some k =>
  cases k<;>rw[hu]at h1<;>try(simp at h1;done)
  simpa only[vp,hu] using this
end Go.Am
namespace Go.Am
variable {P:Program} {N n0:Nat} {σ:St} {Q:Exit->St->Prop}
def um(o:Oper):Bool :=
 match o.op with
 |.call c=>match c.callee with
  |.value _=>true
  |_=>false
 |_=>false
def Bu(ops:Array Oper):List Nat:=(bk ops.size).filter λi=>match ops[i]? with|some o=>um o|none=>false
def sW(P:Program)(ops:Array Oper):List Oper->(St->Prop)->St->Prop
 |[],K,σ=>K σ
 |o::r,K,σ=>dY P ops (um o) o (sW P ops r K) σ
def Q7{ops:Array Oper}{K:St->Prop}:sW P ops [] K σ=K σ:=by simp only[sW]
def Kh{ops:Array Oper}{o:Oper}{r:List Oper}{K:St->Prop}:sW P ops (o::r) K σ=dY P ops (um o) o (sW P ops r K) σ:=by simp only[sW]
def adY{ops:Array Oper}{i:Nat}{o:Oper}(h:ops[i]?=some o):(Bu ops).contains i=um o:=by
 have hi:i<ops.size:=(nu.1 h).1;rw[nx,pY];simp only[Bu,y9,nv,hi,true_and,h]
def Ki{ops:Array Oper}{K:St->Prop}:∀ (l:List Oper) (i:Nat) (σ:St),ops.toList.drop i=l->sW P ops l K σ->rH P ops (Bu ops) i l K σ
 |[],i,σ,_,h=>h
 |o::r,i,σ,hl,h=>by
  have hi:ops[i]?=some o:=by
   have:(ops.toList.drop i)[0]?=some o:=by rw[hl];rfl
   simpa using this
  have hr:ops.toList.drop (i+1)=r:=by
   have:=congrArg EV hl;simpa [EW] using this
  rw[FY,adY hi];rw[Kh]at h;exact CT (λs hs=>Ki r (i+1) s hr hs) h
def F4(ops:Array Oper):Bool:=FZ ops (Bu ops)
def adZ{id:Nat}{ops:Array Oper}{y:Code}(hm:P.follows .mixedOrders=true)(hd:fU N ops=true)(ht:F4 ops=true)(h:∀ K:St->Prop,(∀ s,W P N n0 y Q s->K s)->sW P ops ops.toList K σ):
  W P N n0 (.seq (.region id ops true) y) Q σ :=
 QY (Bu ops) hm hd ht λK hK=>Ki ops.toList 0 σ rfl (h K hK)
def ad0{id:Nat}{ops:Array Oper}(hm:P.follows .mixedOrders=true)(hd:fU N ops=true)(ht:F4 ops=true)(h:∀ K:St->Prop,(∀ s,Q .normal s->K s)->sW P ops ops.toList K σ):
  W P N n0 (.region id ops true) Q σ :=
 F1 (Bu ops) hm hd ht λK hK=>Ki ops.toList 0 σ rfl (h K hK)
def wK:List Oper->Bool
 |[]=>false
 |o::r=>um o||wK r
def Bv(ops:Array Oper):List Nat:=(bk ops.size).filter λi=>match ops[i]? with|some o=>um o&&wK (ops.toList.drop (i+1))|none=>false
def sX(P:Program)(ops:Array Oper):List Oper->(St->Prop)->St->Prop
 |[],K,σ=>K σ
 |o::r,K,σ=>dY P ops (um o&&wK r) o (sX P ops r K) σ
def Q8{ops:Array Oper}{K:St->Prop}:sX P ops [] K σ=K σ:=by simp only[sX]
def Kj{ops:Array Oper}{o:Oper}{r:List Oper}{K:St->Prop}:sX P ops (o::r) K σ=dY P ops (um o&&wK r) o (sX P ops r K) σ:=by simp only[sX]
def ad1{ops:Array Oper}{i:Nat}{o:Oper}{r:List Oper}(h:ops[i]?=some o)(hr:ops.toList.drop (i+1)=r):(Bv ops).contains i=(um o&&wK r):=by
 have hi:i<ops.size:=(nu.1 h).1;rw[nx,pY];simp only[Bv,y9,nv,hi,true_and,h,hr]
def Kk{ops:Array Oper}{K:St->Prop}:∀ (l:List Oper) (i:Nat) (σ:St),ops.toList.drop i=l->sX P ops l K σ->rH P ops (Bv ops) i l K σ
 |[],i,σ,_,h=>h
 |o::r,i,σ,hl,h=>by
  have hi:ops[i]?=some o:=by
   have:(ops.toList.drop i)[0]?=some o:=by rw[hl];rfl
   simpa using this
  have hr:ops.toList.drop (i+1)=r:=by
   have:=congrArg EV hl;simpa [EW] using this
  rw[FY,ad1 hi hr];rw[Kj]at h;exact CT (λs hs=>Kk r (i+1) s hr hs) h
def F5(ops:Array Oper):Bool:=FZ ops (Bv ops)
def ad2{id:Nat}{ops:Array Oper}{y:Code}(hm:P.follows .mixedOrders=true)(hd:fU N ops=true)(ht:F5 ops=true)(h:∀ K:St->Prop,(∀ s,W P N n0 y Q s->K s)->sX P ops ops.toList K σ):
  W P N n0 (.seq (.region id ops true) y) Q σ :=
 QY (Bv ops) hm hd ht λK hK=>Kk ops.toList 0 σ rfl (h K hK)
def ad3{id:Nat}{ops:Array Oper}(hm:P.follows .mixedOrders=true)(hd:fU N ops=true)(ht:F5 ops=true)(h:∀ K:St->Prop,(∀ s,Q .normal s->K s)->sX P ops ops.toList K σ):
  W P N n0 (.region id ops true) Q σ :=
 F1 (Bv ops) hm hd ht λK hK=>Kk ops.toList 0 σ rfl (h K hK)
def Holds.empty{f:FuncId}{sz:Nat}{pre post:List AV}{aa ba:List Ob}{res:AV}(h:∀ a cap,Holds P f (pre++.lit (.slice a 0 cap)::post) aa res ba):Holds P f (pre++.tree sz []::post) aa res ba:=by
 refine⟨(h none 0).1,λγ aJ hs=>?_⟩;have jd:=hs.ao pre.length;have he:(pre++.tree sz []::post).getD pre.length .undef=.tree sz []:=IM;rw[show(⟨λk=>(pre++AV.tree sz []::post).getD k .undef,aa⟩:St).env pre.length=.tree sz [] from he]at jd;obtain⟨a,cap,aQ⟩:∃a cap,γ.tmps.getD pre.length Go.undef=.slice a 0 cap:=by
  generalize γ.tmps.getD pre.length Go.undef=cv at jd;have:=jd.zr;cases this with
  |nil _ cap a=>exact⟨a,cap,rfl⟩
  |tree _ _ b o cap f=>exact⟨_,cap,rfl⟩
 refine(h a cap).2 γ (by simpa using aJ) ⟨λk=>?_,hs.dx,hs.inj,hs.nz,hs.fV,hs.gl⟩;by_cases hk:k=pre.length
 ·subst hk;show aw aa γ.w γ.Z γ.blk ((pre++.lit (.slice a 0 cap)::post).getD pre.length .undef) _;rw[show(pre++AV.lit (.slice a 0 cap)::post).getD pre.length .undef=.lit (.slice a 0 cap) by simp,aQ];exact .lit _
 ·have:=hs.ao k;show aw aa γ.w γ.Z γ.blk ((pre++.lit (.slice a 0 cap)::post).getD k .undef) _;have e:(pre++AV.lit (.slice a 0 cap)::post).getD k .undef=(pre++AV.tree sz []::post).getD k .undef:=by
   simp only[ax];congr 1;rcases du k pre.length with h'|h'
   ·rw[eL h',eL h']
   ·rw[gZ h',gZ h'];obtain⟨j,hj⟩:∃j,k-pre.length=j+1:=⟨k-pre.length-1,AT⟩;rw[hj];simp
  rw[e];exact this
def aF.ad4(d sz:Nat){a:Option Addr}{cap:Nat}(h:σ.env d=.lit (.slice a 0 cap)):aF n0 σ ⟨je σ.env d (.tree sz []),σ.aa⟩:=by
 intro os γ0 γ _ hs hf;refine⟨γ,rfl,rfl,⟨λk=>?_,hs.dx,hs.inj,hs.nz,hs.fV,hs.gl⟩,hf⟩;show aw σ.aa γ.w γ.Z γ.blk (je σ.env d (.tree sz []) k) _;by_cases hk:k=d
 ·subst hk;have:=hs.ao k;rw[h]at this;rw[ac3,this.cD];exact .cC _ _ (.nil sz cap a)
 ·rw[je,if_neg hk];exact hs.ao k
end Go.Am

