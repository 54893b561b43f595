import Derived.Test.YtfoopmojjjpapaaGreatX06
set_option linter.all false
set_option maxHeartbeats 0
set_option maxRecDepth 20000
open List renaming all_eq_true→e8,mem_map→b6,getElem?_append_left→er,range→aY,range'→nq,range_eq_range'→wE,range'_succ→xJ,getElem?_eq_some_iff→aT,getElem?_eq_getElem→bS,getElem?_set→bU
open Array renaming replicate→uW,getD_eq_getD_getElem?→ep,getElem?_append_left→Fo,length_toList→tH
open Nat renaming lt_or_ge→dw
open Option renaming some→cy
namespace Go.Am
variable {σ:St}
class Row {α:Type} (enc:α->List AV) (sz:outParam Nat):Prop where
 wid:∀ x,(enc x).length=sz
 ok:∀ x,∀ v∈enc x,(∃ y,v=.lit y/\y.oneCell'=true)\/∃ s r,v=.tree s r
def rowsOf{α:Type}(enc:α->List AV)(xs:List α):List (List AV):=xs.map enc
section
variable {α:Type} {enc:α->List AV} {sz:Nat}
def cU(xs:List α):(rowsOf enc xs).length=xs.length:=by simp[rowsOf]
def fU[Inhabited α](xs:List α)(i:Nat)(h:i<xs.length):(rowsOf enc xs).getD i []=enc (xs.getD i default):=by simp[rowsOf,h]
def RC[Inhabited α](xs:List α)(i:Nat)(h:i<xs.length):(rowsOf enc xs)[i]?=some (enc (xs.getD i default)):=by simp[rowsOf,h]
def RD(xs:List α):(rowsOf enc xs).take xs.length=rowsOf enc xs:=by rw[List.take_of_length_le (by simp[rowsOf])]
def KI(xs ys:List α):rowsOf enc xs++rowsOf enc ys=rowsOf enc (xs++ys):=by simp[rowsOf]
def Gn(xs:List α)(x:α):rowsOf enc xs++[enc x]=rowsOf enc (xs++[x]):=by simp[rowsOf]
def RE[Row enc sz](x:α):(enc x).all cQ=true:=by
 rw[e8];intro v hv;rcases Row.ok (enc:=enc) x v hv with⟨y,rfl,h⟩|⟨s,r,rfl⟩
 ·simpa [cQ] using h
 ·rfl
def KJ[Row enc sz](xs:List α):((rowsOf enc xs).all λrow=>row.all cQ)=true:=by
 simp only[rowsOf,List.all_map,e8];intro x _;exact RE (enc:=enc) x
def afg{l:List AV}(h:∀ v∈l,kq v=true):lJ l=true:=by
 induction l with
 |nil=>rfl
 |cons v l ih=>simp only[lJ,Bool.and_eq_true];exact⟨h v Fl,ih λx hx=>h x (by simp[hx])⟩
def afh[Row enc sz](x:α):lJ (enc x)=true:=afg λv hv=>by
 rcases Row.ok (enc:=enc) x v hv with⟨y,rfl,_⟩|⟨s,r,rfl⟩<;>rfl
def Dz[Row enc sz](ρ:Nat->Nat)(s:Nat)(xs:List α):bM ρ (.arr s (rowsOf enc xs))=.arr s (rowsOf enc xs):=C' (by
 intro row hr;simp only[rowsOf,b6]at hr;obtain⟨x,_,rfl⟩:=hr;exact afh (enc:=enc) x)
def zG[Row enc sz](xs:List α):∀ row∈rowsOf enc xs,∀ v∈row,(∃ x,v=AV.lit x)\/∃ s r,v=AV.tree s r:=by
 intro row hr v hv;simp only[rowsOf,b6]at hr;obtain⟨x,_,rfl⟩:=hr;rcases Row.ok (enc:=enc) x v hv with⟨y,rfl,_⟩|h
 ·exact .inl ⟨_,rfl⟩
 ·exact .inr h
def pw[Row enc sz](xs:List α):∀ row∈rowsOf enc xs,row.length=sz:=by
 intro row hr;simp only[rowsOf,b6]at hr;obtain⟨x,_,rfl⟩:=hr;exact Row.wid (enc:=enc) x
end
structure dq where
 wk:Int
 day:Int
 st:Int
 len:Int
 room:Int
 ch:List (Int×Int)
 deriving Inhabited
structure Pr where
 fst:Int
 snd:Int
 ei:Int
 aC:List Int
 deriving Inhabited
structure Ld where
 cls:Int
 opt:Int
 wt:Int
 deriving Inhabited
structure Ct where
 ei:Int
 a6:List Ld
 most:Int
 cI:Int
 deriving Inhabited
structure aj where
 cls:List (List dq)
 ae:List Pr
 aK:List Ct
 rules:Int
 deriving Inhabited
def i64(n:Int):AV:=OJ n
def dt(c:Int×Int):List AV:=[OJ c.1,OJ c.2]
def cA(o:dq):List AV:=[OJ o.wk,OJ o.day,OJ o.st,OJ o.len,OJ o.room,.tree 2 (rowsOf dt o.ch)]
def bm(l:List dq):List AV:=[.tree 6 (rowsOf cA l)]
def aL(p:Pr):List AV:=[OJ p.fst,OJ p.snd,OJ p.ei,.tree 1 (ints p.aC)]
def yd(l:Ld):List AV:=[OJ l.cls,OJ l.opt,OJ l.wt]
def ej(c:Ct):List AV:=[OJ c.ei,.tree 3 (rowsOf yd c.a6),OJ c.most,OJ c.cI]
def ay(m:aj):List AV:=[.tree 1 (rowsOf bm m.cls),.tree 4 (rowsOf aL m.ae),.tree 4 (rowsOf ej m.aK),OJ m.rules]
def zH{l:List AV}(h:(l.all λv=>match v with|.lit y=>y.oneCell'|.tree ..=>true|_=>false)=true):∀ v∈l,(∃ y,v=AV.lit y/\y.oneCell'=true)\/∃ s r,v=AV.tree s r:=by
 intro v hv;have:=e8.1 h v hv;cases v<;>simp at this
 ·exact .inl ⟨_,rfl,this⟩
 ·exact .inr ⟨_,_,rfl⟩
instance:Row dt 2:=⟨λ_=>rfl,λ_=>zH rfl⟩
instance:Row cA 6:=⟨λ_=>rfl,λ_=>zH rfl⟩
instance:Row bm 1:=⟨λ_=>rfl,λ_=>zH rfl⟩
instance:Row aL 4:=⟨λ_=>rfl,λ_=>zH rfl⟩
instance:Row yd 3:=⟨λ_=>rfl,λ_=>zH rfl⟩
instance:Row ej 4:=⟨λ_=>rfl,λ_=>zH rfl⟩
instance:Row ay 4:=⟨λ_=>rfl,λ_=>zH rfl⟩
end Go.Am
namespace Go.Am
variable {P:Program}
variable {N n0:Nat} {Q:Exit->St->Prop} {σ:St}
def lQ(P:Program)(n0:Nat)(rs:List ResultVar)(je:AV->List Ob->Prop):Exit->St->Prop
 |.normal,s=>gG s P rs λvs=>∃ res bb,je res bb/\nR n0 s (gv vs) res bb
 |.ret,s=>gG s P rs λvs=>∃ res bb,je res bb/\nR n0 s (gv vs) res bb
 |_,_=>False
def dZ.Ka {f : FuncId} {fn : Func} {c : Code} {args : List AV} {aa : List Ob} {je : AV -> List Ob -> Prop} (hf : P.funcs[f]? = some fn) (hb : fn.body = some c) (ri : (fn.name == "runtime.NumGoroutine") = false)
  (hN:args.length<=fn.ntmps) (h:W P fn.ntmps aa.length c (lQ P aa.length fn.results.toList je) ⟨λk=>args.getD k .undef,aa⟩):dZ P f args aa je:=by
 refine⟨⟨fn,hf,ri,by rw[hb];rfl⟩,?_⟩;intro γ aO hs;refine calls_of_wp hf hb ?_
 let tm:=γ.tmps++uW (fn.ntmps-γ.tmps.size) Go.undef
 have aA:gf fn.ntmps aa γ ⟨λk=>args.getD k .undef,aa⟩ { tmps:=tm,defers:=[] } γ.w:=by
  refine⟨rfl,by simp[tm];omega,{ γ with tmps:=tm },rfl,rfl,⟨λk=>?_,hs.dz,hs.inj,hs.nz,hs.gk,hs.gl⟩,(Fr.refl _ _).put _⟩;rcases dw k args.length with hk|hk
  ·have:=hs.ar k;have e:tm.getD k Go.undef=γ.tmps.getD k Go.undef:=by
    simp only[tm,ep];rw[Fo CZ]
   show aw _ _ _ _ _ (tm.getD k Go.undef);rw[e];exact this
  ·have e:args.getD k AV.undef=.undef:=by simp[hk]
   show aw _ _ _ _ (args.getD k .undef) _;rw[e];exact .undef _
 refine wp_mono (h aa γ _ γ.w rfl aA) ?_;rintro e a' w'⟨σ',h1,gP,_,aB,rfl,ha,iK,eV⟩;have fin:∀ (K:List AV->Prop),gG σ' P fn.results.toList K->(∀ vs,K vs->∃ res bb,je res bb/\nR aa.length σ' (gv vs) res bb) ->
   a'.defers=[]/\∃ v,(results fn a'.tmps).run P aB.w=.ok v aB.w/\∃ res bb cv jq,je res bb/\Ending.returned v=.returned cv/\jq.w=aB.w/\jq.tmps = #[cv]/\bk ⟨λk=>[res].getD k .undef,bb⟩ jq/\Fr aa γ bb jq:=by
  intro K hK Kb;obtain⟨vs,bg,k1,k2,k3,k4,k5⟩:=F4 iK _ _ hK;obtain⟨res,bb,J2,ak,snap,r1,r2,r3,r4,r5,r6,r7⟩:=Kb vs k1;refine⟨gP,?_⟩;have eG :∃v,(results fn a'.tmps).run P aB.w=.ok v aB.w/\aw σ'.aa aB.w aB.Z aB.blk (gv vs) v:=by
   have hm:(fn.results.mapM λ(r:ResultVar)=>match r with|.tmp t=>(pure (a'.tmps.getD t Go.undef):Sem Value)|.cell a t=>do loadVar t (← asAddr (a'.tmps.getD a Go.undef))).run P aB.w=.ok bg.toArray aB.w:=by
    rw[Array.mapM_eq_mapM_toList,Sem.run_map,<- ha];exact congrArg (λ(r:Result (List Value))=>r.andThen λa w'=>Result.ok a.toArray w') k2
   have hr:(results fn a'.tmps).run P aB.w=.ok (if h:bg.toArray.size=1 then bg.toArray[0] else .tuple bg.toArray) aB.w:=by
    unfold results;rw[Sem.run_bind];exact congrArg (λr=>Result.andThen r λ(a:Array Value) w'=>(pure (if h:a.size=1 then a[0] else Value.tuple a):Sem Value).run P w') hm
   rw[hr]
   match vs,bg,k3,k5 with
   |[],[],_,k5=>exact⟨_,rfl,.bx _ _ rfl (λj x hj=>by simp at hj)⟩
   |[v],[cv],_,k5=>exact⟨cv,Fl,by simpa [gv] using k5 0 v rfl⟩
   |v::v'::vs,cv::pd::bg,k3,k5 =>
    refine⟨.tuple (cv::pd::bg).toArray,Fl,.bx _ _ (by simpa using k3) (λj x hj=>?_)⟩;have:=k5 j x hj;simpa [List.getD_eq_getElem?_getD,ep] using this
  obtain⟨v,sI,Dg⟩:=eG;obtain⟨jq,e1,e2,e3,e4⟩:=iK.select ak snap bb r1 r2 r3 r4 (λk=>[res].getD k .undef) #[v] (λk=>by
   cases k with
   |zero=>exact .inr ⟨_,r7,by simpa using Dg⟩
   |succ k=>left;simp)
  exact⟨v,sI,res,bb,v,jq,J2,rfl,e1,e2,e3,eV.select r5 r2 r6 e1 e4⟩
 cases e with
 |normal=>exact fin _ h1 (λ_ h=>h)
 |ret=>exact fin _ h1 (λ_ h=>h)
 |exit id=>exact h1.elim
 |goto l=>exact h1.elim
 |panic c=>exact h1.elim
 |outgrown=>exact h1.elim
theorem dZ.aQ {f:FuncId} {fn:Func} {c:Code} {args:List AV} {aa:List Ob} {je:AV -> List Ob -> Prop} (N k:Nat) (rs:List ResultVar) (hf:P.funcs[f]?=some fn) (h:W P N k c (lQ P k rs je) ⟨fun k=>args.getD k .undef,aa⟩) (hb:fn.body=some c:=by rfl) (ri:(fn.name=="runtime.NumGoroutine")=false:=by rfl) (hN:fn.ntmps=N:=by rfl) (pf:fn.results.toList=rs:=by rfl) (hk:aa.length=k:=by rfl) (hl:args.length<=N:=by simp):dZ P f args aa je:=by
 subst hN;subst pf;subst hk;exact dZ.Ka hf hb ri hl h
def lr(P:Program)(g:FuncId)(args:List AV)(dst:Option Tmp)(K:St->Prop)(σ:St):Prop:=JY P g args σ λv σ'=>K (σ'.put dst v)
def DA(P:Program)(o:Oper)(K:St->Prop)(σ:St):Prop :=
 o.guard=none /\
 match o.op with
 |.call { callee:=.value f,args,.. } =>
  match ev σ f with
  |.fn g bn=>lr P g (args.toList.map (ev σ)++bn) o.dst K σ
  |_=>False
 |_=>False
def RF{os:List Ob}{γ0:Cx}{o:Oper}{K:St->Prop}(h:DA P o K σ){a:Act}{w:World}(aA:gf N os γ0 σ a w)(hd:∀ d,o.dst=some d->d<N){Q:Exit->Act->World->Prop}{next:Act->World->Prop}(hn:∀ σ' a' w',K σ'->gf N os γ0 σ' a' w'->next a' w'):o.wp P a w next Q:=by
 obtain⟨gP,aO,γ,rfl,ha,hs,hf⟩:=aA;have ud:∀ d,o.dst=some d->d<a.tmps.size:=λd h=>by rw[aO];exact hd d h
 obtain⟨_,h⟩:=h;split at h
 ·rename_i f args cm cO;split at h
  ·rename_i g bn he;have cX:=sF hs ha f;rw[he]at cX;obtain⟨bg,aR,jD,vt⟩:=cX.Q9;have nt:∀ (j:Nat) d,(args.toList.map (ev σ)++bn)[j]?=some d->aw σ.aa γ.w γ.Z γ.blk d (((args.map a.eval)++bg).getD j Go.undef):=by
    intro j d hj;simp only[ep];rcases dw j args.size with ba|iy
    ·rw[er (by simpa using ba)]at hj;rw[Fo (by simpa using ba)];simp only[List.getElem?_map,Array.getElem?_toList,Array.getElem?_map]at hj ⊢;cases hx:args[j]? with
     |none=>simp[hx]at hj
     |some y=>simp[hx]at hj ⊢;subst hj;exact sF hs ha y
    ·rw[List.getElem?_append_right (by simpa using iy)]at hj;rw[Array.getElem?_append_right (by simpa using iy)];simp only[List.length_map,tH,Array.size_map]at hj ⊢;have:=vt _ d hj;simpa [ep] using this
   unfold lr at h;have oc:=QY hs (argv:=(args.map a.eval)++bg) (by simp[jD]) nt h;obtain⟨ak,snap,dp,bW,je,⟨⟨fn,wP,ri,x9⟩,_⟩,_⟩:=h;unfold Oper.wp;have hr:(execOp a.eval o).run P γ.w=.ok (.enter g ((args.map a.eval)++bg)) γ.w:=by
    have o8 : ¬ fn.name = "runtime.NumGoroutine" := by simpa using ri
    have og:¬ fn.body=none:=by intro e;rw[e]at x9;simp at x9
    simp[execOp,cO,resolve,aR,Deferred.ofValue,invoke,callFunc,wP,o8,og]
   rw[hr];show Calls P g _ _ _;refine oc.mono ?_;rintro e w'⟨cv,v,σ',aB,rfl,rfl,jP,iK,eV,hv,hK,sH⟩;refine hn _ _ _ hK ⟨by rw[put_defers];exact gP,by rw[tW];exact aO,{ aB with tmps:=(a.put o.dst cv).tmps },rfl,rfl,q6 iK (by rw[jP,ha]) ud hv,?_⟩;rw[p6];exact(hf.trans eV).put _
  ·exact h.elim
 ·exact h.elim
def RG(n:Nat){id:Nat}{ops:Array Oper}{y:Code}(hd:fJ N ops=true)(o:Oper)(ho:ops[n]?=some o)(h:∀ K:St->Prop,(∀ s,W P N n0 y Q s->K s)->opsL P ops (ops.toList.take n) (DA P o (opsL P ops (ops.toList.drop (n+1)) K)) σ):W P N n0 (.seq (.region id ops false) y) Q σ:=by
 refine FM ?_;intro os γ0 a w hn aA;refine wp_region ?_;have rh:n<ops.size:=(Array.getElem?_eq_some_iff.1 ho).1;have e:aY ops.size=nq 0 (ops.toList.take n).length++(n::nq (n+1) (ops.toList.drop (n+1)).length):=by
  rw[wE,<- xJ];have:=List.range'_append (s:=0) (m:=n) (n:=(ops.toList.drop (n+1)).length+1) (step:=1);simp only[Nat.zero_add,Nat.one_mul]at this;rw[show(ops.toList.take n).length=n by simp;omega,this];congr 1;simp;omega
 rw[e];refine A6 _ a w ?_;refine vj (sr hd) (K:=DA P o (opsL P ops (ops.toList.drop (n+1)) (W P N n0 y Q))) (λσ' a' w' hk cW=>?_) (ops.toList.take n) 0 σ a w (λk hk=>?_) (h _ (λ_ h=>h)) aA
 ·show wpOps P ops _ _ a' w';rw[wpOps_cons];unfold wpOp;simp only[ho];have hw:Region.wanted o (yielded ops a'.tmps)=true:=by simp[Region.wanted,hk.1]
  rw[if_pos hw];left;refine RF hk cW (sr hd o (List.mem_of_getElem? (by simpa using ho))) (λσ2 a2 w2 fK KK=>?_);refine vj (sr hd) (K:=W P N n0 y Q) (λKL a3 w3 mX KM=>⟨KL,mX,KM⟩) (ops.toList.drop (n+1)) (n+1) σ2 a2 w2 (λk hk=>?_) fK KK;rw[List.getElem?_drop];simp
 ·simp only[List.length_take,tH]at hk;rw[List.getElem?_take_of_lt CZ];simp
def KO(ak:List Nat){f:FuncId}{args dp:List AV}{bW:List Ob}{dst:Option Tmp}{K:St->Prop}{je:AV->List Ob->Prop}(h:dZ P f dp bW je)(bT:ak.Nodup)(ho:xV (bq σ.aa.length ak) σ.aa ak bW)(ha:nS (cC σ (·∈ak) (bq σ.aa.length ak) false) dp args)(hK:∀ res cS,je res cS->K (({ σ with aa:=fc σ.aa ak (cS.map (bM (bq σ.aa.length ak))) }:St).put dst (bh (bq σ.aa.length ak) res))):lr P f args dst K σ:=by
 obtain⟨h1,h2⟩:=ho.spec;obtain⟨h3,h4⟩:=ha.spec;exact⟨ak,false,dp,bW,je,h,⟨bT,h1,h2,h3,h4⟩,λres cS hp=>⟨Fl,hK res cS hp⟩⟩
end Go.Am
namespace Go.Am
variable {P:Program} {N n0:Nat} {σ:St} {Q:Exit->St->Prop}
def rn(P:Program)(ops:Array Oper)(qs:List Nat):Nat->List Oper->(St->Prop)->St->Prop
 |_,[],K,σ=>K σ
 |i,o::r,K,σ=>ew P ops (qs.contains i) o (rn P ops qs (i+1) r K) σ
def RH{ops:Array Oper}{qs:List Nat}{i:Nat}{K:St->Prop}:rn P ops qs i [] K σ=K σ:=by simp only[rn]
def Gp{ops:Array Oper}{qs:List Nat}{i:Nat}{o:Oper}{r:List Oper}{K:St->Prop}:rn P ops qs i (o::r) K σ=ew P ops (qs.contains i) o (rn P ops qs (i+1) r K) σ:=by simp only[rn]
def KP{ops:Array Oper}{qs:List Nat}{K:St->Prop}:∀ (l:List Oper) (i:Nat) (σ:St),ops.toList.drop i=l->rn P ops qs i l K σ->jE P ops qs (jF (nq i l.length)) K σ
 |[],i,σ,_,h=>h
 |o::r,i,σ,hl,h=>by
  have hi:ops[i]?=some o:=by
   have:(ops.toList.drop i)[0]?=some o:=by rw[hl];rfl
   simpa using this
  have hr:ops.toList.drop (i+1)=r:=by
   have:=congrArg List.tail hl;simpa [List.tail_drop] using this
  rw[List.length_cons,xJ];show cp P ops qs i (jE P ops qs (jF (nq (i+1) r.length)) K) σ;unfold cp;simp only[hi];have hm:∀ s,rn P ops qs (i+1) r K s->jE P ops qs (jF (nq (i+1) r.length)) K s:=λs hs=>KP r (i+1) s hr hs;exact C9 hm h
def Gq(ops:Array Oper)(qs:List Nat):Bool:=(jF (aY ops.size)).ok ops qs ops.size (uW ops.size false)
def RJ{id:Nat}{ops:Array Oper}{y:Code}(qs:List Nat)(hm:P.follows .mixedOrders=true)(hd:fJ N ops=true)(ht:Gq ops qs=true)(h:∀ K:St->Prop,(∀ s,W P N n0 y Q s->K s)->rn P ops qs 0 ops.toList K σ):
  W P N n0 (.seq (.region id ops true) y) Q σ :=
 QO qs _ hm hd ht λK hK=>by
  have:=KP (P:=P) (ops:=ops) (qs:=qs) ops.toList 0 σ rfl (h K hK);rw[wE];simpa using this
def Gr{id:Nat}{ops:Array Oper}(qs:List Nat)(hm:P.follows .mixedOrders=true)(hd:fJ N ops=true)(ht:Gq ops qs=true)(h:∀ K:St->Prop,(∀ s,Q .normal s->K s)->rn P ops qs 0 ops.toList K σ):
  W P N n0 (.region id ops true) Q σ :=
 q7 qs _ hm hd ht (by
  have:=KP (P:=P) (ops:=ops) (qs:=qs) ops.toList 0 σ rfl (h _ (λ_ h=>h));rw[wE];simpa using this)
def cd{f:FuncId}{args:List AV}{dst:Option Tmp}{K:St->Prop}{res:AV}(h:Holds P f args [] res [])(ha:lJ args=true)(hr:kq res=true)(hK:K (σ.put dst res)):Jz P f args dst K σ :=
 ⟨res,h,ha,hr,hK⟩
end Go.Am
namespace Go.Am
variable {P:Program} {N n0:Nat} {σ:St} {Q:Exit->St->Prop}
def bk.KQ{σ:St}{γ:Cx}(h:bk σ γ){id:Nat}{cells cells':List AV}(ho:σ.aa[id]?=some (.var cells))(hl:cells'.length=cells.length)(hc:∀ (c:Nat) v v',cells[c]?=some v->cells'[c]?=some v'->∀ cv,aw σ.aa γ.w γ.Z γ.blk v cv->aw σ.aa γ.w γ.Z γ.blk v' cv):bk ⟨σ.env,σ.aa.set id (.var cells')⟩ γ:=by
 obtain⟨b,cap,cur,t,h1,h2,h3,h4⟩:=h.dz id _ ho;have:=h.write (ob':=.var cells') ho Fl (by simp[Ob.dO,hl]) h1 (w':=γ.w) h2 (λ_ _=>rfl) rfl ⟨rfl,by rw[h3,hl],λc v hv=>?_⟩
 ·exact this
 ·have ba:c<cells.length:=by rw[<- hl];exact(aT.1 hv).1
  exact hc c _ v (bS ba) hv _ (h4 c _ (bS ba))
def Fr.KQ(os:List Ob)(γ:Cx){id:Nat}{cells cells':List AV}(ho:os[id]?=some (.var cells))(hl:cells'.length=cells.length):Fr os γ (os.set id (.var cells')) γ where
 kM:=rfl
 tape:=rfl
 output:=rfl
 size:=Nat.le_refl _
 dS:=λ_ _ _=>rfl
 z0:=λ_ h=>h
 z1:=λ_ h=>.inl h
 own:=by
  rintro b⟨i,o,c,⟨x,hx,eF⟩,hb⟩;rw[bU]at hx;split at hx
  ·rename_i e;subst e;exact .inl ⟨id,o,c,⟨_,ho,Fl⟩,hb⟩
  ·exact .inl ⟨i,o,c,⟨x,hx,eF⟩,hb⟩
 len:=Fl
 dV:=by
  rintro i hi⟨x,hx,eF⟩;have hx0:=hx;rw[bU]at hx;split at hx
  ·rename_i e;subst e;exact⟨rfl,.var cells,.var cells',ho,by rw[bU];simp[hi],by simp[Ob.dO,hl]⟩
  ·exact⟨rfl,x,x,hx,hx0,Ob.jr eF⟩
def aH.zI(id c sz:Nat){cells:List AV}(ho:σ.aa[id]?=some (.var cells))(hc:cells[c]?=some (.lit (.slice none 0 0)))(h0:0<sz):
  aH n0 σ ⟨σ.env,(σ.aa++[Ob.arr sz []]).set id (.var (cells.set c (.ref σ.aa.length sz 0 0)))⟩:=by
 intro os γ0 γ _ hs hf;have hp:=hs.zs h0;have bV:id<σ.aa.length:=(aT.1 ho).1;have cH:(σ.aa++[Ob.arr sz []])[id]?=some (.var cells):=by rw[er bV];exact ho
 refine⟨{ γ with blk:=cT γ.blk σ.aa.length none },rfl,rfl,?_,(hf.trans (Fr.zs _ _ _)).trans (Fr.KQ _ _ cH (cells':=cells.set c (.ref σ.aa.length sz 0 0)) Fl)⟩;refine hp.KQ cH (cells':=cells.set c (.ref σ.aa.length sz 0 0)) Fl (λk v v' hv qf cv hr=>?_);rw[bU]at qf;split at qf
 ·rename_i e;subst e;split at qf
  ·simp only[cy.injEq]at qf;subst qf;have hk:cells[c]?=some v:=hv;rw[hc]at hk;simp only[cy.injEq]at hk;subst hk;rw[hr.cz];exact .lL _ _ (List.getElem?_concat_length ..) (by simp[cT])
  ·simp at qf
 ·have hk:cells[k]?=some v':=qf;have fK:cells[k]?=some v:=hv;rw[fK]at hk;simp only[cy.injEq]at hk;subst hk;exact hr
def aH.DB(a id c sz:Nat){cells:List AV}{rows:List (List AV)}(ho:σ.aa[id]?=some (.var cells))(ha:σ.aa[a]?=some (.arr sz rows))(hc:cells[c]?=some (.ref a sz 0 rows.length))(hw:∀ row∈rows,row.length=sz)(u9:∀ row∈rows,∀ v∈row,(∃ x,v=.lit x)\/∃ s r,v=.tree s r):aH n0 σ ⟨σ.env,(σ.aa.set a .gone).set id (.var (cells.set c (.tree sz rows)))⟩:=by
 intro os γ0 γ _ hs hf;have zJ:a≠id:=by intro e;subst e;rw[ho]at ha;simp at ha
 have zK:id<σ.aa.length:=(aT.1 ho).1;have kO:a<σ.aa.length:=(aT.1 ha).1
 let aB:Cx:={ γ with Z:=λb=>γ.Z b\/∃ o cap,γ.blk a=some (b,o,cap) }
 let os2:=(σ.aa.set a .gone).set id (.var (cells.set c (.tree sz rows)))
 have gw:∀ i,os2[i]?=if i=id then some (.var (cells.set c (.tree sz rows))) else if i=a then some .gone else σ.aa[i]?:=by
  intro i;show((σ.aa.set a .gone).set id _)[i]?=_;rw[bU,bU];by_cases h1:i=id
  ·subst h1;simp[zK]
  ·by_cases h2:i=a
   ·subst h2;simp[Ne.symm h1,h1,kO]
   ·simp[Ne.symm h1,Ne.symm h2,h1,h2]
 have hR:∀ v cv,aw σ.aa γ.w γ.Z γ.blk v cv->aw os2 aB.w aB.Z aB.blk v cv:=λv cv hv =>
  hv.mono (λb hb=>⟨.inl hb,rfl⟩) (λi o hi=>by
   rw[gw];by_cases h1:i=id
   ·subst h1;rw[ho]at hi;simp only[cy.injEq]at hi;subst hi;right;exact⟨rfl,_,by rw[if_pos rfl],by simp[Ob.dO]⟩
   ·rw[if_neg h1];by_cases h2:i=a
    ·left;rw[if_pos h2]
    ·rw[if_neg h2];by_cases hg:o=.gone
     ·subst hg;exact .inl hi
     ·exact .inr ⟨rfl,o,hi,Ob.jr hg⟩)
 have bO:∀ i,Live os2 i->Live σ.aa i/\i≠a:=by
  rintro i⟨o,hi,hg⟩;rw[gw]at hi;split at hi
  ·rename_i h1;subst h1;exact⟨⟨_,ho,Fl⟩,Ne.symm zJ⟩
  ·split at hi
   ·simp at hi;exact absurd hi.symm hg
   ·rename_i h2;exact⟨⟨o,hi,hg⟩,h2⟩
 have ox:Live σ.aa a:=⟨_,ha,Fl⟩;refine⟨aB,rfl,rfl,⟨λk=>hR _ _ (hs.ar k),?_,λi j b o c o' c' hi hj=>hs.inj i j b o c o' c' (bO i hi).1 (bO j hj).1,?_,?_,λg=>x8 (hs.gl g) λb hb=>⟨.inl hb,rfl⟩⟩,?_⟩
 ·intro i o hi;have aq:os2[i]?=some o:=hi;rw[gw]at aq;split at aq
  ·rename_i h1;subst h1;simp only[cy.injEq]at aq;subst aq;obtain⟨b,cap,cur,t,h1,h2,h3,h4⟩:=hs.dz _ _ ho;refine⟨b,cap,cur,t,h1,h2,by simpa using h3,λk v hv=>?_⟩;rw[bU]at hv;split at hv
   ·rename_i e;subst e;split at hv
    ·simp only[cy.injEq]at hv;subst hv;have cX:dU σ (λx=>x≠a) (.tree sz rows) (.ref a sz 0 rows.length):=dU.flat ha hw rfl Fl u9;exact .cJ _ _ (cX.zl hs (γc:=aB) (λb hb=>.inl hb) rfl (λx b o cap bV _ hb=>.inr ⟨o,cap,by rw[show a=x by simpa using(Decidable.not_not.1 bV).symm];exact hb⟩) _ (h4 c _ hc))
    ·simp at hv
   ·exact hR _ _ (h4 k v hv)
  ·split at aq
   ·simp only[cy.injEq]at aq;subst aq;trivial
   ·by_cases hg:o=.gone
    ·subst hg;trivial
    ·exact(hs.dz i o aq).mono hR rfl (λ_ _ _ _=>rfl)
 ·rintro b ⟨i,o,c',hi,hb⟩ (hz|⟨o',cap,aV⟩)
  ·exact hs.nz b ⟨i,o,c',(bO i hi).1,hb⟩ hz
  ·exact(bO i hi).2 (hs.inj i a b o c' o' cap (bO i hi).1 ox hb aV)
 ·rintro b (hz|⟨o,cap,hb⟩)
  ·exact hs.gk b hz
  ·exact hs.blt ox hb
 ·refine⟨hf.kM,hf.tape,hf.output,hf.size,hf.dS,λb hb=>.inl (hf.z0 b hb),?_,?_,by show os.length<=os2.length;simp[os2];exact hf.len,?_,hf.drawn⟩
  ·rintro b (hz|⟨o,cap,hb⟩)
   ·exact hf.z1 b hz
   ·exact .inr (hf.own b ⟨a,o,cap,ox,hb⟩)
  ·rintro b ⟨i,o,c',hi,hb⟩;exact hf.own b ⟨i,o,c',(bO i hi).1,hb⟩
  ·intro i hi hl;obtain⟨h1,x,x',hx,bZ,hk⟩:=hf.dV i hi (bO i hl).1;have Dk:=(bO i hl).2;have jR:Live os2 i:=hl;obtain⟨o,dC,nW⟩:=jR;refine⟨h1,x,o,hx,dC,?_⟩;rw[gw]at dC;split at dC
   ·rename_i e;subst e;rw[ho]at bZ;simp only[cy.injEq]at bZ dC;subst bZ;subst dC;refine Ob.Gm hk (by simp[Ob.dO])
   ·rw[bZ]at dC;simp only[cy.injEq]at dC;subst dC;exact hk
end Go.Am

