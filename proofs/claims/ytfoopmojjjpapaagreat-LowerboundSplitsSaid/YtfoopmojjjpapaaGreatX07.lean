import Derived.Test.YtfoopmojjjpapaaGreatX06
set_option linter.all false
set_option maxHeartbeats 0
set_option maxRecDepth 20000
open List renaming all_eq_true→gA,mem_map→bY,getElem?_append_left→fe,range→bn,range'→mU,range_eq_range'→wW,range'_succ→wV,getElem?_eq_some_iff→aY,getElem?_eq_getElem→bx,getElem?_set→bU
open Array renaming replicate→w0,getD_eq_getD_getElem?→eU,getElem?_append_left→Ha,length_toList→sU
open Nat renaming lt_or_ge→dT
open Option renaming some→cH
namespace Go.Am
variable {σ:St}
class Row {α:Type} (enc:α->List AV) (sz:outParam Nat):Prop where
 wid:∀ x,(enc x).length=sz
 ok:∀ x,∀ v∈enc x,(∃ y,v=.lit y/\y.oneCell'=true)\/∃ s r,v=.tree s r
def rowsOf{α:Type}(enc:α->List AV)(xs:List α):List (List AV):=xs.map enc
section
variable {α:Type} {enc:α->List AV} {sz:Nat}
def cF(xs:List α):(rowsOf enc xs).length=xs.length:=by simp[rowsOf]
def gJ[Inhabited α](xs:List α)(i:Nat)(h:i<xs.length):(rowsOf enc xs).getD i []=enc (xs.getD i default):=by simp[rowsOf,h]
def Ms[Inhabited α](xs:List α)(i:Nat)(h:i<xs.length):(rowsOf enc xs)[i]?=some (enc (xs.getD i default)):=by simp[rowsOf,h]
def Tq(xs:List α):(rowsOf enc xs).take xs.length=rowsOf enc xs:=by rw[List.take_of_length_le (by simp[rowsOf])]
def Mt(xs ys:List α):rowsOf enc xs++rowsOf enc ys=rowsOf enc (xs++ys):=by simp[rowsOf]
def pS(xs:List α)(x:α):rowsOf enc xs++[enc x]=rowsOf enc (xs++[x]):=by simp[rowsOf]
def Ts(xs:List α)(i:Nat)(x:α):(rowsOf enc xs).set i (enc x)=rowsOf enc (xs.set i x):=by simp[rowsOf,List.map_set]
def Tt[Row enc sz](x:α):(enc x).all dh=true:=by
 rw[gA];intro v hv;rcases Row.ok (enc:=enc) x v hv with⟨y,rfl,h⟩|⟨s,r,rfl⟩
 ·simpa [dh] using h
 ·rfl
def Mu[Row enc sz](xs:List α):((rowsOf enc xs).all λrow=>row.all dh)=true:=by
 simp only[rowsOf,List.all_map,gA];intro x _;exact Tt (enc:=enc) x
def agZ{l:List AV}(h:∀ v∈l,lr v=true):mZ l=true:=by
 induction l with
 |nil=>rfl
 |cons v l ih=>simp only[mZ,Bool.and_eq_true];exact⟨h v G9,ih λx hx=>h x (by simp[hx])⟩
def ag0[Row enc sz](x:α):mZ (enc x)=true:=agZ λv hv=>by
 rcases Row.ok (enc:=enc) x v hv with⟨y,rfl,_⟩|⟨s,r,rfl⟩<;>rfl
def oz[Row enc sz](ρ:Nat->Nat)(s:Nat)(xs:List α):bO ρ (.arr s (rowsOf enc xs))=.arr s (rowsOf enc xs):=EM (by
 intro row hr;simp only[rowsOf,bY]at hr;obtain⟨x,_,rfl⟩:=hr;exact ag0 (enc:=enc) x)
def mF[Row enc sz](xs:List α):∀ row∈rowsOf enc xs,∀ v∈row,(∃ x,v=AV.lit x)\/∃ s r,v=AV.tree s r:=by
 intro row hr v hv;simp only[rowsOf,bY]at hr;obtain⟨x,_,rfl⟩:=hr;rcases Row.ok (enc:=enc) x v hv with⟨y,rfl,_⟩|h
 ·exact .inl ⟨_,rfl⟩
 ·exact .inr h
def iA[Row enc sz](xs:List α):∀ row∈rowsOf enc xs,row.length=sz:=by
 intro row hr;simp only[rowsOf,bY]at hr;obtain⟨x,_,rfl⟩:=hr;exact Row.wid (enc:=enc) x
end
structure cP where
 wk:Int
 day:Int
 st:Int
 len:Int
 room:Int
 ch:List (Int×Int)
 deriving Inhabited
structure Pr where
 fst:Int
 snd:Int
 ej:Int
 aB:List Int
 deriving Inhabited
structure Ld where
 cls:Int
 opt:Int
 wt:Int
 deriving Inhabited
structure Ct where
 ej:Int
 bd:List Ld
 most:Int
 cA:Int
 deriving Inhabited
structure ah where
 cls:List (List cP)
 ae:List Pr
 aE:List Ct
 rules:Int
 deriving Inhabited
def i64(n:Int):AV:=QM n
def bf(c:Int×Int):List AV:=[QM c.1,QM c.2]
def cB(o:cP):List AV:=[QM o.wk,QM o.day,QM o.st,QM o.len,QM o.room,.tree 2 (rowsOf bf o.ch)]
def aT(l:List cP):List AV:=[.tree 6 (rowsOf cB l)]
def aI(p:Pr):List AV:=[QM p.fst,QM p.snd,QM p.ej,.tree 1 (ints p.aB)]
def rX(l:Ld):List AV:=[QM l.cls,QM l.opt,QM l.wt]
def dz(c:Ct):List AV:=[QM c.ej,.tree 3 (rowsOf rX c.bd),QM c.most,QM c.cA]
def ao(m:ah):List AV:=[.tree 1 (rowsOf aT m.cls),.tree 4 (rowsOf aI m.ae),.tree 4 (rowsOf dz m.aE),QM m.rules]
def Bw{l:List AV}(h:(l.all λv=>match v with|.lit y=>y.oneCell'|.tree ..=>true|_=>false)=true):∀ v∈l,(∃ y,v=AV.lit y/\y.oneCell'=true)\/∃ s r,v=AV.tree s r:=by
 intro v hv;have:=gA.1 h v hv;cases v<;>simp at this
 ·exact .inl ⟨_,rfl,this⟩
 ·exact .inr ⟨_,_,rfl⟩
instance:Row bf 2:=⟨λ_=>rfl,λ_=>Bw rfl⟩
instance:Row cB 6:=⟨λ_=>rfl,λ_=>Bw rfl⟩
instance:Row aT 1:=⟨λ_=>rfl,λ_=>Bw rfl⟩
instance:Row aI 4:=⟨λ_=>rfl,λ_=>Bw rfl⟩
instance:Row rX 3:=⟨λ_=>rfl,λ_=>Bw rfl⟩
instance:Row dz 4:=⟨λ_=>rfl,λ_=>Bw rfl⟩
instance:Row ao 4:=⟨λ_=>rfl,λ_=>Bw rfl⟩
end Go.Am
namespace Go.Am
variable {P:Program}
variable {N n0:Nat} {Q:Exit->St->Prop} {σ:St}
def fU(P:Program)(n0:Nat)(rs:List ResultVar)(iV:AV->List Ob->Prop):Exit->St->Prop
 |.normal,s=>dV s P rs λvs=>∃ res bh,iV res bh/\oU n0 s (dP vs) res bh
 |.ret,s=>dV s P rs λvs=>∃ res bh,iV res bh/\oU n0 s (dP vs) res bh
 |_,_=>False
def dv.LS {f : FuncId} {fn : Func} {c : Code} {args : List AV} {aa : List Ob} {iV : AV -> List Ob -> Prop} (hf : P.funcs[f]? = some fn) (hb : fn.body = some c) (tq : (fn.name == "runtime.NumGoroutine") = false)
  (hN:args.length<=fn.ntmps) (h:W P fn.ntmps aa.length c (fU P aa.length fn.results.toList iV) ⟨λk=>args.getD k .undef,aa⟩):dv P f args aa iV:=by
 refine⟨⟨fn,hf,tq,by rw[hb];rfl⟩,?_⟩;intro γ aO hs;refine calls_of_wp hf hb ?_
 let tm:=γ.tmps++w0 (fn.ntmps-γ.tmps.size) Go.undef
 have az:gp fn.ntmps aa γ ⟨λk=>args.getD k .undef,aa⟩ { tmps:=tm,defers:=[] } γ.w:=by
  refine⟨rfl,by simp[tm];omega,{ γ with tmps:=tm },rfl,rfl,⟨λk=>?_,hs.ec,hs.inj,hs.nz,hs.gV,hs.gl⟩,(Fr.refl _ _).put _⟩;rcases dT k args.length with hk|hk
  ·have:=hs.ar k;have e:tm.getD k Go.undef=γ.tmps.getD k Go.undef:=by
    simp only[tm,eU];rw[Ha Ey]
   show aw _ _ _ _ _ (tm.getD k Go.undef);rw[e];exact this
  ·have e:args.getD k AV.undef=.undef:=by simp[hk]
   show aw _ _ _ _ (args.getD k .undef) _;rw[e];exact .undef _
 refine wp_mono (h aa γ _ γ.w rfl az) ?_;rintro e a' w'⟨σ',h1,iK,_,aC,rfl,ha,je,fS⟩;have fin:∀ (K:List AV->Prop),dV σ' P fn.results.toList K->(∀ vs,K vs->∃ res bh,iV res bh/\oU aa.length σ' (dP vs) res bh) ->
   a'.defers=[]/\∃ v,(results fn a'.tmps).run P aC.w=.ok v aC.w/\∃ res bh cv jR,iV res bh/\Ending.returned v=.returned cv/\jR.w=aC.w/\jR.tmps = #[cv]/\bz ⟨λk=>[res].getD k .undef,bh⟩ jR/\Fr aa γ bh jR:=by
  intro K hK LU;obtain⟨vs,bq,k1,k2,k3,k4,k5⟩:=HM je _ _ hK;obtain⟨res,bh,LJ,aj,snap,r1,r2,r3,r4,r5,r6,r7⟩:=LU vs k1;refine⟨iK,?_⟩;have fj :∃v,(results fn a'.tmps).run P aC.w=.ok v aC.w/\aw σ'.aa aC.w aC.Z aC.blk (dP vs) v:=by
   have hm:(fn.results.mapM λ(r:ResultVar)=>match r with|.tmp t=>(pure (a'.tmps.getD t Go.undef):Sem Value)|.cell a t=>do loadVar t (← asAddr (a'.tmps.getD a Go.undef))).run P aC.w=.ok bq.toArray aC.w:=by
    rw[Array.mapM_eq_mapM_toList,Sem.run_map,<- ha];exact congrArg (λ(r:Result (List Value))=>r.andThen λa w'=>Result.ok a.toArray w') k2
   have hr:(results fn a'.tmps).run P aC.w=.ok (if h:bq.toArray.size=1 then bq.toArray[0] else .tuple bq.toArray) aC.w:=by
    unfold results;rw[Sem.run_bind];exact congrArg (λr=>Result.andThen r λ(a:Array Value) w'=>(pure (if h:a.size=1 then a[0] else Value.tuple a):Sem Value).run P w') hm
   rw[hr]
   match vs,bq,k3,k5 with
   |[],[],_,k5=>exact⟨_,rfl,.bC _ _ rfl (λj x hj=>by simp at hj)⟩
   |[v],[cv],_,k5=>exact⟨cv,G9,by simpa [dP] using k5 0 v rfl⟩
   |v::v'::vs,cv::qP::bq,k3,k5 =>
    refine⟨.tuple (cv::qP::bq).toArray,G9,.bC _ _ (by simpa using k3) (λj x hj=>?_)⟩;have:=k5 j x hj;simpa [List.getD_eq_getElem?_getD,eU] using this
  obtain⟨v,pf,zN⟩:=fj;obtain⟨jR,e1,e2,e3,e4⟩:=je.select aj snap bh r1 r2 r3 r4 (λk=>[res].getD k .undef) #[v] (λk=>by
   cases k with
   |zero=>exact .inr ⟨_,r7,by simpa using zN⟩
   |succ k=>left;simp)
  exact⟨v,pf,res,bh,v,jR,LJ,rfl,e1,e2,e3,fS.select r5 r2 r6 e1 e4⟩
 cases e with
 |normal=>exact fin _ h1 (λ_ h=>h)
 |ret=>exact fin _ h1 (λ_ h=>h)
 |exit id=>exact h1.elim
 |goto l=>exact h1.elim
 |panic c=>exact h1.elim
 |outgrown=>exact h1.elim
theorem dv.aM {f:FuncId} {fn:Func} {c:Code} {args:List AV} {aa:List Ob} {iV:AV -> List Ob -> Prop} (N k:Nat) (rs:List ResultVar) (hf:P.funcs[f]?=some fn) (h:W P N k c (fU P k rs iV) ⟨fun k=>args.getD k .undef,aa⟩) (hb:fn.body=some c:=by rfl) (tq:(fn.name=="runtime.NumGoroutine")=false:=by rfl) (hN:fn.ntmps=N:=by rfl) (xr:fn.results.toList=rs:=by rfl) (hk:aa.length=k:=by rfl) (hl:args.length<=N:=by simp):dv P f args aa iV:=by
 subst hN;subst xr;subst hk;exact dv.LS hf hb tq hl h
def kd(P:Program)(g:FuncId)(args:List AV)(dst:Option Tmp)(K:St->Prop)(σ:St):Prop:=LD P g args σ λv σ'=>K (σ'.put dst v)
def uG(P:Program)(o:Oper)(K:St->Prop)(σ:St):Prop :=
 o.guard=none /\
 match o.op with
 |.call { callee:=.value f,args,.. } =>
  match ev σ f with
  |.fn g bF=>kd P g (args.toList.map (ev σ)++bF) o.dst K σ
  |_=>False
 |_=>False
def H6{os:List Ob}{γ0:Cx}{o:Oper}{K:St->Prop}(h:uG P o K σ){a:Act}{w:World}(az:gp N os γ0 σ a w)(hd:∀ d,o.dst=some d->d<N){Q:Exit->Act->World->Prop}{next:Act->World->Prop}(hn:∀ σ' a' w',K σ'->gp N os γ0 σ' a' w'->next a' w'):o.wp P a w next Q:=by
 obtain⟨iK,aO,γ,rfl,ha,hs,hf⟩:=az;have vQ:∀ d,o.dst=some d->d<a.tmps.size:=λd h=>by rw[aO];exact hd d h
 obtain⟨_,h⟩:=h;split at h
 ·rename_i f args cI cT;split at h
  ·rename_i g bF he;have eG:=uA hs ha f;rw[he]at eG;obtain⟨bq,aW,fX,qO⟩:=eG.S2;have oS:∀ (j:Nat) d,(args.toList.map (ev σ)++bF)[j]?=some d->aw σ.aa γ.w γ.Z γ.blk d (((args.map a.eval)++bq).getD j Go.undef):=by
    intro j d hj;simp only[eU];rcases dT j args.size with aX|iy
    ·rw[fe (by simpa using aX)]at hj;rw[Ha (by simpa using aX)];simp only[List.getElem?_map,Array.getElem?_toList,Array.getElem?_map]at hj ⊢;cases hx:args[j]? with
     |none=>simp[hx]at hj
     |some y=>simp[hx]at hj ⊢;subst hj;exact uA hs ha y
    ·rw[List.getElem?_append_right (by simpa using iy)]at hj;rw[Array.getElem?_append_right (by simpa using iy)];simp only[List.length_map,sU,Array.size_map]at hj ⊢;have:=qO _ d hj;simpa [eU] using this
   unfold kd at h;have pN:=SU hs (argv:=(args.map a.eval)++bq) (by simp[fX]) oS h;obtain⟨aj,snap,dO,b7,iV,⟨⟨fn,yD,tq,zM⟩,_⟩,_⟩:=h;unfold Oper.wp;have hr:(execOp a.eval o).run P γ.w=.ok (.enter g ((args.map a.eval)++bq)) γ.w:=by
    have o8 : ¬ fn.name = "runtime.NumGoroutine" := by simpa using tq
    have pd:¬ fn.body=none:=by intro e;rw[e]at zM;simp at zM
    simp[execOp,cT,resolve,aW,Deferred.ofValue,invoke,callFunc,yD,o8,pd]
   rw[hr];show Calls P g _ _ _;refine pN.mono ?_;rintro e w'⟨cv,v,σ',aC,rfl,rfl,ku,je,fS,hv,hK,uB⟩;refine hn _ _ _ hK ⟨by rw[put_defers];exact iK,by rw[vK];exact aO,{ aC with tmps:=(a.put o.dst cv).tmps },rfl,rfl,s9 je (by rw[ku,ha]) vQ hv,?_⟩;rw[rM];exact(hf.trans fS).put _
  ·exact h.elim
 ·exact h.elim
def Tu(n:Nat){id:Nat}{ops:Array Oper}{y:Code}(hd:fP N ops=true)(o:Oper)(ho:ops[n]?=some o)(h:∀ K:St->Prop,(∀ s,W P N n0 y Q s->K s)->opsL P ops (ops.toList.take n) (uG P o (opsL P ops (ops.toList.drop (n+1)) K)) σ):W P N n0 (.seq (.region id ops false) y) Q σ:=by
 refine HA ?_;intro os γ0 a w hn az;refine wp_region ?_;have rQ:n<ops.size:=(Array.getElem?_eq_some_iff.1 ho).1;have e:bn ops.size=mU 0 (ops.toList.take n).length++(n::mU (n+1) (ops.toList.drop (n+1)).length):=by
  rw[wW,<- wV];have:=List.range'_append (s:=0) (m:=n) (n:=(ops.toList.drop (n+1)).length+1) (step:=1);simp only[Nat.zero_add,Nat.one_mul]at this;rw[show(ops.toList.take n).length=n by simp;omega,this];congr 1;simp;omega
 rw[e];refine zG _ a w ?_;refine s8 (oV hd) (K:=uG P o (opsL P ops (ops.toList.drop (n+1)) (W P N n0 y Q))) (λσ' a' w' hk c8=>?_) (ops.toList.take n) 0 σ a w (λk hk=>?_) (h _ (λ_ h=>h)) az
 ·show wpOps P ops _ _ a' w';rw[wpOps_cons];unfold wpOp;simp only[ho];have hw:Region.wanted o (yielded ops a'.tmps)=true:=by simp[Region.wanted,hk.1]
  rw[if_pos hw];left;refine H6 hk c8 (oV hd o (List.mem_of_getElem? (by simpa using ho))) (λσ2 a2 w2 bw xy=>?_);refine s8 (oV hd) (K:=W P N n0 y Q) (λBx a3 w3 gK xz=>⟨Bx,gK,xz⟩) (ops.toList.drop (n+1)) (n+1) σ2 a2 w2 (λk hk=>?_) bw xy;rw[List.getElem?_drop];simp
 ·simp only[List.length_take,sU]at hk;rw[List.getElem?_take_of_lt Ey];simp
def zU(aj:List Nat){f:FuncId}{args dO:List AV}{b7:List Ob}{dst:Option Tmp}{K:St->Prop}{iV:AV->List Ob->Prop}(h:dv P f dO b7 iV)(bG:aj.Nodup)(ho:zE (bE σ.aa.length aj) σ.aa aj b7)(ha:jN (a7 σ (·∈aj) (bE σ.aa.length aj) false) dO args)(hK:∀ res dm,iV res dm->K (({ σ with aa:=fF σ.aa aj (dm.map (bO (bE σ.aa.length aj))) }:St).put dst (br (bE σ.aa.length aj) res))):kd P f args dst K σ:=by
 obtain⟨h1,h2⟩:=ho.spec;obtain⟨h3,h4⟩:=ha.spec;exact⟨aj,false,dO,b7,iV,h,⟨bG,h1,h2,h3,h4⟩,λres dm hp=>⟨G9,hK res dm hp⟩⟩
end Go.Am
namespace Go.Am
variable {P:Program} {N n0:Nat} {σ:St} {Q:Exit->St->Prop}
def tw(P:Program)(ops:Array Oper)(qs:List Nat):Nat->List Oper->(St->Prop)->St->Prop
 |_,[],K,σ=>K σ
 |i,o::r,K,σ=>eC P ops (qs.contains i) o (tw P ops qs (i+1) r K) σ
def Tv{ops:Array Oper}{qs:List Nat}{i:Nat}{K:St->Prop}:tw P ops qs i [] K σ=K σ:=by simp only[tw]
def H7{ops:Array Oper}{qs:List Nat}{i:Nat}{o:Oper}{r:List Oper}{K:St->Prop}:tw P ops qs i (o::r) K σ=eC P ops (qs.contains i) o (tw P ops qs (i+1) r K) σ:=by simp only[tw]
def Mw{ops:Array Oper}{qs:List Nat}{K:St->Prop}:∀ (l:List Oper) (i:Nat) (σ:St),ops.toList.drop i=l->tw P ops qs i l K σ->j8 P ops qs (j9 (mU i l.length)) K σ
 |[],i,σ,_,h=>h
 |o::r,i,σ,hl,h=>by
  have hi:ops[i]?=some o:=by
   have:(ops.toList.drop i)[0]?=some o:=by rw[hl];rfl
   simpa using this
  have hr:ops.toList.drop (i+1)=r:=by
   have:=congrArg List.tail hl;simpa [List.tail_drop] using this
  rw[List.length_cons,wV];show cy P ops qs i (j8 P ops qs (j9 (mU (i+1) r.length)) K) σ;unfold cy;simp only[hi];have hm:∀ s,tw P ops qs (i+1) r K s->j8 P ops qs (j9 (mU (i+1) r.length)) K s:=λs hs=>Mw r (i+1) s hr hs;exact EL hm h
def H8(ops:Array Oper)(qs:List Nat):Bool:=(j9 (bn ops.size)).ok ops qs ops.size (w0 ops.size false)
def Tw{id:Nat}{ops:Array Oper}{y:Code}(qs:List Nat)(hm:P.follows .mixedOrders=true)(hd:fP N ops=true)(ht:H8 ops qs=true)(h:∀ K:St->Prop,(∀ s,W P N n0 y Q s->K s)->tw P ops qs 0 ops.toList K σ):
  W P N n0 (.seq (.region id ops true) y) Q σ :=
 SI qs _ hm hd ht λK hK=>by
  have:=Mw (P:=P) (ops:=ops) (qs:=qs) ops.toList 0 σ rfl (h K hK);rw[wW];simpa using this
def H9{id:Nat}{ops:Array Oper}(qs:List Nat)(hm:P.follows .mixedOrders=true)(hd:fP N ops=true)(ht:H8 ops qs=true)(h:∀ K:St->Prop,(∀ s,Q .normal s->K s)->tw P ops qs 0 ops.toList K σ):
  W P N n0 (.region id ops true) Q σ :=
 nf qs _ hm hd ht (by
  have:=Mw (P:=P) (ops:=ops) (qs:=qs) ops.toList 0 σ rfl (h _ (λ_ h=>h));rw[wW];simpa using this)
def cC{f:FuncId}{args:List AV}{dst:Option Tmp}{K:St->Prop}{res:AV}(h:Holds P f args [] res [])(ha:mZ args=true)(hr:lr res=true)(hK:K (σ.put dst res)):Lb P f args dst K σ :=
 ⟨res,h,ha,hr,hK⟩
end Go.Am
namespace Go.Am
variable {P:Program} {N n0:Nat} {σ:St} {Q:Exit->St->Prop}
def bz.Mx{σ:St}{γ:Cx}(h:bz σ γ){id:Nat}{cells cells':List AV}(ho:σ.aa[id]?=some (.var cells))(hl:cells'.length=cells.length)(hc:∀ (c:Nat) v v',cells[c]?=some v->cells'[c]?=some v'->∀ cv,aw σ.aa γ.w γ.Z γ.blk v cv->aw σ.aa γ.w γ.Z γ.blk v' cv):bz ⟨σ.env,σ.aa.set id (.var cells')⟩ γ:=by
 obtain⟨b,cap,cur,t,h1,h2,h3,h4⟩:=h.ec id _ ho;have:=h.write (ob':=.var cells') ho G9 (by simp[Ob.ew,hl]) h1 (w':=γ.w) h2 (λ_ _=>rfl) rfl ⟨rfl,by rw[h3,hl],λc v hv=>?_⟩
 ·exact this
 ·have aX:c<cells.length:=by rw[<- hl];exact(aY.1 hv).1
  exact hc c _ v (bx aX) hv _ (h4 c _ (bx aX))
def Fr.Mx(os:List Ob)(γ:Cx){id:Nat}{cells cells':List AV}(ho:os[id]?=some (.var cells))(hl:cells'.length=cells.length):Fr os γ (os.set id (.var cells')) γ where
 lS:=rfl
 tape:=rfl
 output:=rfl
 size:=Nat.le_refl _
 eA:=λ_ _ _=>rfl
 z0:=λ_ h=>h
 z1:=λ_ h=>.inl h
 own:=by
  rintro b⟨i,o,c,⟨x,hx,fi⟩,hb⟩;rw[bU]at hx;split at hx
  ·rename_i e;subst e;exact .inl ⟨id,o,c,⟨_,ho,G9⟩,hb⟩
  ·exact .inl ⟨i,o,c,⟨x,hx,fi⟩,hb⟩
 len:=G9
 eK:=by
  rintro i hi⟨x,hx,fi⟩;have hx0:=hx;rw[bU]at hx;split at hx
  ·rename_i e;subst e;exact⟨rfl,.var cells,.var cells',ho,by rw[bU];simp[hi],by simp[Ob.ew,hl]⟩
  ·exact⟨rfl,x,x,hx,hx0,Ob.jS fi⟩
def aD.pT(id c sz:Nat){cells:List AV}(ho:σ.aa[id]?=some (.var cells))(hc:cells[c]?=some (.lit (.slice none 0 0)))(h0:0<sz):
  aD n0 σ ⟨σ.env,(σ.aa++[Ob.arr sz []]).set id (.var (cells.set c (.ref σ.aa.length sz 0 0)))⟩:=by
 intro os γ0 γ _ hs hf;have hp:=hs.Bi h0;have bZ:id<σ.aa.length:=(aY.1 ho).1;have cz:(σ.aa++[Ob.arr sz []])[id]?=some (.var cells):=by rw[fe bZ];exact ho
 refine⟨{ γ with blk:=dq γ.blk σ.aa.length none },rfl,rfl,?_,(hf.trans (Fr.Bi _ _ _)).trans (Fr.Mx _ _ cz (cells':=cells.set c (.ref σ.aa.length sz 0 0)) G9)⟩;refine hp.Mx cz (cells':=cells.set c (.ref σ.aa.length sz 0 0)) G9 (λk v v' hv vP cv hr=>?_);rw[bU]at vP;split at vP
 ·rename_i e;subst e;split at vP
  ·simp only[cH.injEq]at vP;subst vP;have hk:cells[c]?=some v:=hv;rw[hc]at hk;simp only[cH.injEq]at hk;subst hk;rw[hr.cO];exact .ng _ _ (List.getElem?_concat_length ..) (by simp[dq])
  ·simp at vP
 ·have hk:cells[k]?=some v':=vP;have bw:cells[k]?=some v:=hv;rw[bw]at hk;simp only[cH.injEq]at hk;subst hk;exact hr
def aD.v7(a id c sz:Nat){cells:List AV}{rows:List (List AV)}(ho:σ.aa[id]?=some (.var cells))(ha:σ.aa[a]?=some (.arr sz rows))(hc:cells[c]?=some (.ref a sz 0 rows.length))(hw:∀ row∈rows,row.length=sz)(xe:∀ row∈rows,∀ v∈row,(∃ x,v=.lit x)\/∃ s r,v=.tree s r):aD n0 σ ⟨σ.env,(σ.aa.set a .gone).set id (.var (cells.set c (.tree sz rows)))⟩:=by
 intro os γ0 γ _ hs hf;have By:a≠id:=by intro e;subst e;rw[ho]at ha;simp at ha
 have Bz:id<σ.aa.length:=(aY.1 ho).1;have nh:a<σ.aa.length:=(aY.1 ha).1
 let aC:Cx:={ γ with Z:=λb=>γ.Z b\/∃ o cap,γ.blk a=some (b,o,cap) }
 let os2:=(σ.aa.set a .gone).set id (.var (cells.set c (.tree sz rows)))
 have jF:∀ i,os2[i]?=if i=id then some (.var (cells.set c (.tree sz rows))) else if i=a then some .gone else σ.aa[i]?:=by
  intro i;show((σ.aa.set a .gone).set id _)[i]?=_;rw[bU,bU];by_cases h1:i=id
  ·subst h1;simp[Bz]
  ·by_cases h2:i=a
   ·subst h2;simp[Ne.symm h1,h1,nh]
   ·simp[Ne.symm h1,Ne.symm h2,h1,h2]
 have hR:∀ v cv,aw σ.aa γ.w γ.Z γ.blk v cv->aw os2 aC.w aC.Z aC.blk v cv:=λv cv hv =>
  hv.mono (λb hb=>⟨.inl hb,rfl⟩) (λi o hi=>by
   rw[jF];by_cases h1:i=id
   ·subst h1;rw[ho]at hi;simp only[cH.injEq]at hi;subst hi;right;exact⟨rfl,_,by rw[if_pos rfl],by simp[Ob.ew]⟩
   ·rw[if_neg h1];by_cases h2:i=a
    ·left;rw[if_pos h2]
    ·rw[if_neg h2];by_cases hg:o=.gone
     ·subst hg;exact .inl hi
     ·exact .inr ⟨rfl,o,hi,Ob.jS hg⟩)
 have bW:∀ i,Live os2 i->Live σ.aa i/\i≠a:=by
  rintro i⟨o,hi,hg⟩;rw[jF]at hi;split at hi
  ·rename_i h1;subst h1;exact⟨⟨_,ho,G9⟩,Ne.symm By⟩
  ·split at hi
   ·simp at hi;exact absurd hi.symm hg
   ·rename_i h2;exact⟨⟨o,hi,hg⟩,h2⟩
 have pU:Live σ.aa a:=⟨_,ha,G9⟩;refine⟨aC,rfl,rfl,⟨λk=>hR _ _ (hs.ar k),?_,λi j b o c o' c' hi hj=>hs.inj i j b o c o' c' (bW i hi).1 (bW j hj).1,?_,?_,λg=>zK (hs.gl g) λb hb=>⟨.inl hb,rfl⟩⟩,?_⟩
 ·intro i o hi;have au:os2[i]?=some o:=hi;rw[jF]at au;split at au
  ·rename_i h1;subst h1;simp only[cH.injEq]at au;subst au;obtain⟨b,cap,cur,t,h1,h2,h3,h4⟩:=hs.ec _ _ ho;refine⟨b,cap,cur,t,h1,h2,by simpa using h3,λk v hv=>?_⟩;rw[bU]at hv;split at hv
   ·rename_i e;subst e;split at hv
    ·simp only[cH.injEq]at hv;subst hv;have eG:cX σ (λx=>x≠a) (.tree sz rows) (.ref a sz 0 rows.length):=cX.flat ha hw rfl G9 xe;exact .cN _ _ (eG.Ba hs (γc:=aC) (λb hb=>.inl hb) rfl (λx b o cap bZ _ hb=>.inr ⟨o,cap,by rw[show a=x by simpa using(Decidable.not_not.1 bZ).symm];exact hb⟩) _ (h4 c _ hc))
    ·simp at hv
   ·exact hR _ _ (h4 k v hv)
  ·split at au
   ·simp only[cH.injEq]at au;subst au;trivial
   ·by_cases hg:o=.gone
    ·subst hg;trivial
    ·exact(hs.ec i o au).mono hR rfl (λ_ _ _ _=>rfl)
 ·rintro b ⟨i,o,c',hi,hb⟩ (hz|⟨o',cap,ba⟩)
  ·exact hs.nz b ⟨i,o,c',(bW i hi).1,hb⟩ hz
  ·exact(bW i hi).2 (hs.inj i a b o c' o' cap (bW i hi).1 pU hb ba)
 ·rintro b (hz|⟨o,cap,hb⟩)
  ·exact hs.gV b hz
  ·exact hs.blt pU hb
 ·refine⟨hf.lS,hf.tape,hf.output,hf.size,hf.eA,λb hb=>.inl (hf.z0 b hb),?_,?_,by show os.length<=os2.length;simp[os2];exact hf.len,?_,hf.drawn⟩
  ·rintro b (hz|⟨o,cap,hb⟩)
   ·exact hf.z1 b hz
   ·exact .inr (hf.own b ⟨a,o,cap,pU,hb⟩)
  ·rintro b ⟨i,o,c',hi,hb⟩;exact hf.own b ⟨i,o,c',(bW i hi).1,hb⟩
  ·intro i hi hl;obtain⟨h1,x,x',hx,cf,hk⟩:=hf.eK i hi (bW i hl).1;have EY:=(bW i hl).2;have kx:Live os2 i:=hl;obtain⟨o,dx,pI⟩:=kx;refine⟨h1,x,o,hx,dx,?_⟩;rw[jF]at dx;split at dx
   ·rename_i e;subst e;rw[ho]at cf;simp only[cH.injEq]at cf dx;subst cf;subst dx;refine Ob.H5 hk (by simp[Ob.ew])
   ·rw[cf]at dx;simp only[cH.injEq]at dx;subst dx;exact hk
end Go.Am

