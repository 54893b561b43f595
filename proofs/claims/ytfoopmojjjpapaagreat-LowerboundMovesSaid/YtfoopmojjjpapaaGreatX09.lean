import Derived.Test.YtfoopmojjjpapaaGreatX07
set_option linter.all false
set_option maxHeartbeats 0
set_option maxRecDepth 20000
open Nat renaming lt_or_ge→dE
open Array renaming getD_eq_getD_getElem?→ek,getElem?_append_left→EX,length_toList→qR
open List renaming range'→lH
namespace Go.Am
variable {P:Program}
variable {N n0:Nat} {Q:Exit->St->Prop} {σ:St}
def eH(P:Program)(n0:Nat)(rs:List ResultVar)(hJ:AV->List Ob->Prop):Exit->St->Prop
 |.normal,s=>dx s P rs λvs=>∃ res a8,hJ res a8/\nW n0 s (dv vs) res a8
 |.ret,s=>dx s P rs λvs=>∃ res a8,hJ res a8/\nW n0 s (dv vs) res a8
 |_,_=>False
def cQ.Jp {f : FuncId} {fn : Func} {c : Code} {args : List AV} {aa : List Ob} {hJ : AV -> List Ob -> Prop} (hf : P.funcs[f]? = some fn) (hb : fn.body = some c) (rf : (fn.name == "runtime.NumGoroutine") = false)
  (hN:args.length<=fn.ntmps) (h:W P fn.ntmps aa.length c (eH P aa.length fn.results.toList hJ) ⟨λk=>args.getD k .undef,aa⟩):cQ P f args aa hJ:=by
 refine⟨⟨fn,hf,rf,by rw[hb];rfl⟩,?_⟩;intro γ aN hs;refine calls_of_wp hf hb ?_
 let tm:=γ.tmps++Array.replicate (fn.ntmps-γ.tmps.size) Go.undef
 have ay:fq fn.ntmps aa γ ⟨λk=>args.getD k .undef,aa⟩ { tmps:=tm,defers:=[] } γ.w:=by
  refine⟨rfl,by simp[tm];omega,{ γ with tmps:=tm },rfl,rfl,⟨λk=>?_,hs.dF,hs.inj,hs.nz,hs.fZ,hs.gl⟩,(Fr.refl _ _).put _⟩;rcases dE k args.length with hk|hk
  ·have:=hs.an k;have e:tm.getD k Go.undef=γ.tmps.getD k Go.undef:=by
    simp only[tm,ek];rw[EX Ix]
   show aw _ _ _ _ _ (tm.getD k Go.undef);rw[e];exact this
  ·have e:args.getD k AV.undef=.undef:=by simp[hk]
   show aw _ _ _ _ (args.getD k .undef) _;rw[e];exact .undef _
 refine wp_mono (h aa γ _ γ.w rfl ay) ?_;rintro e a' w'⟨σ',h1,gI,_,az,rfl,ha,iw,eX⟩;have fin:∀ (K:List AV->Prop),dx σ' P fn.results.toList K->(∀ vs,K vs->∃ res a8,hJ res a8/\nW aa.length σ' (dv vs) res a8) ->
   a'.defers=[]/\∃ v,(results fn a'.tmps).run P az.w=.ok v az.w/\∃ res a8 cv jf,hJ res a8/\Ending.returned v=.returned cv/\jf.w=az.w/\jf.tmps = #[cv]/\bg ⟨λk=>[res].getD k .undef,a8⟩ jf/\Fr aa γ a8 jf:=by
  intro K hK Jq;obtain⟨vs,a7,k1,k2,k3,k4,k5⟩:=Fz iw _ _ hK;obtain⟨res,a8,Jh,aj,snap,r1,r2,r3,r4,r5,r6,r7⟩:=Jq vs k1;refine⟨gI,?_⟩;have eG :∃v,(results fn a'.tmps).run P az.w=.ok v az.w/\aw σ'.aa az.w az.Z az.blk (dv vs) v:=by
   have hm:(fn.results.mapM λ(r:ResultVar)=>match r with|.tmp t=>(pure (a'.tmps.getD t Go.undef):Sem Value)|.cell a t=>do loadVar t (← asAddr (a'.tmps.getD a Go.undef))).run P az.w=.ok a7.toArray az.w:=by
    rw[Array.mapM_eq_mapM_toList,Sem.run_map,<- ha];exact congrArg (λ(r:Result (List Value))=>r.andThen λa w'=>Result.ok a.toArray w') k2
   have hr:(results fn a'.tmps).run P az.w=.ok (if h:a7.toArray.size=1 then a7.toArray[0] else .tuple a7.toArray) az.w:=by
    unfold results;rw[Sem.run_bind];exact congrArg (λr=>Result.andThen r λ(a:Array Value) w'=>(pure (if h:a.size=1 then a[0] else Value.tuple a):Sem Value).run P w') hm
   rw[hr]
   match vs,a7,k3,k5 with
   |[],[],_,k5=>exact⟨_,rfl,.bu _ _ rfl (λj x hj=>by simp at hj)⟩
   |[v],[cv],_,k5=>exact⟨cv,Iy,by simpa [dv] using k5 0 v rfl⟩
   |v::v'::vs,cv::pf::a7,k3,k5 =>
    refine⟨.tuple (cv::pf::a7).toArray,Iy,.bu _ _ (by simpa using k3) (λj x hj=>?_)⟩;have:=k5 j x hj;simpa [List.getD_eq_getElem?_getD,ek] using this
  obtain⟨v,kN,xY⟩:=eG;obtain⟨jf,e1,e2,e3,e4⟩:=iw.select aj snap a8 r1 r2 r3 r4 (λk=>[res].getD k .undef) #[v] (λk=>by
   cases k with
   |zero=>exact .inr ⟨_,r7,by simpa using xY⟩
   |succ k=>left;simp)
  exact⟨v,kN,res,a8,v,jf,Jh,rfl,e1,e2,e3,eX.select r5 r2 r6 e1 e4⟩
 cases e with
 |normal=>exact fin _ h1 (λ_ h=>h)
 |ret=>exact fin _ h1 (λ_ h=>h)
 |exit id=>exact h1.elim
 |goto l=>exact h1.elim
 |panic c=>exact h1.elim
 |outgrown=>exact h1.elim
theorem cQ.aK {f:FuncId} {fn:Func} {c:Code} {args:List AV} {aa:List Ob} {hJ:AV -> List Ob -> Prop} (N k:Nat) (rs:List ResultVar) (hf:P.funcs[f]?=some fn) (h:W P N k c (eH P k rs hJ) ⟨fun k=>args.getD k .undef,aa⟩) (hb:fn.body=some c:=by rfl) (rf:(fn.name=="runtime.NumGoroutine")=false:=by rfl) (hN:fn.ntmps=N:=by rfl) (xZ:fn.results.toList=rs:=by rfl) (hk:aa.length=k:=by rfl) (hl:args.length<=N:=by simp):cQ P f args aa hJ:=by
 subst hN;subst xZ;subst hk;exact cQ.Jp hf hb rf hl h
def jz(P:Program)(g:FuncId)(args:List AV)(dst:Option Tmp)(K:St->Prop)(σ:St):Prop:=Jd P g args σ λv σ'=>K (σ'.put dst v)
def sN(P:Program)(o:Oper)(K:St->Prop)(σ:St):Prop :=
 o.guard=none /\
 match o.op with
 |.call { callee:=.value f,args,.. } =>
  match ev σ f with
  |.fn g bk=>jz P g (args.toList.map (ev σ)++bk) o.dst K σ
  |_=>False
 |_=>False
def F6{os:List Ob}{γ0:Cx}{o:Oper}{K:St->Prop}(h:sN P o K σ){a:Act}{w:World}(ay:fq N os γ0 σ a w)(hd:∀ d,o.dst=some d->d<N){Q:Exit->Act->World->Prop}{next:Act->World->Prop}(hn:∀ σ' a' w',K σ'->fq N os γ0 σ' a' w'->next a' w'):o.wp P a w next Q:=by
 obtain⟨gI,aN,γ,rfl,ha,hs,hf⟩:=ay;have ua:∀ d,o.dst=some d->d<a.tmps.size:=λd h=>by rw[aN];exact hd d h
 obtain⟨_,h⟩:=h;split at h
 ·rename_i f args cp cZ;split at h
  ·rename_i g bk he;have ee:=sv hs ha f;rw[he]at ee;obtain⟨a7,aP,iI,vp⟩:=ee.PV;have nv:∀ (j:Nat) d,(args.toList.map (ev σ)++bk)[j]?=some d->aw σ.aa γ.w γ.Z γ.blk d (((args.map a.eval)++a7).getD j Go.undef):=by
    intro j d hj;simp only[ek];rcases dE j args.size with a6|gd
    ·rw[List.getElem?_append_left (by simpa using a6)]at hj;rw[EX (by simpa using a6)];simp only[List.getElem?_map,Array.getElem?_toList,Array.getElem?_map]at hj ⊢;cases hx:args[j]? with
     |none=>simp[hx]at hj
     |some y=>simp[hx]at hj ⊢;subst hj;exact sv hs ha y
    ·rw[List.getElem?_append_right (by simpa using gd)]at hj;rw[Array.getElem?_append_right (by simpa using gd)];simp only[List.length_map,qR,Array.size_map]at hj ⊢;have:=vp _ d hj;simpa [ek] using this
   unfold jz at h;have oa:=PL hs (argv:=(args.map a.eval)++a7) (by simp[iI]) nv h;obtain⟨aj,snap,dz,bP,hJ,⟨⟨fn,wR,rf,xX⟩,_⟩,_⟩:=h;unfold Oper.wp;have hr:(execOp a.eval o).run P γ.w=.ok (.enter g ((args.map a.eval)++a7)) γ.w:=by
    have lS : ¬ fn.name = "runtime.NumGoroutine" := by simpa using rf
    have mq:¬ fn.body=none:=by intro e;rw[e]at xX;simp at xX
    simp[execOp,cZ,resolve,aP,Deferred.ofValue,invoke,callFunc,wR,lS,mq]
   rw[hr];show Calls P g _ _ _;refine oa.mono ?_;rintro e w'⟨cv,v,σ',az,rfl,rfl,jG,iw,eX,hv,hK,sw⟩;refine hn _ _ _ hK ⟨by rw[put_defers];exact gI,by rw[tR];exact aN,{ az with tmps:=(a.put o.dst cv).tmps },rfl,rfl,q6 iw (by rw[jG,ha]) ua hv,?_⟩;rw[p6];exact(hf.trans eX).put _
  ·exact h.elim
 ·exact h.elim
def QI(n:Nat){id:Nat}{ops:Array Oper}{y:Code}(hd:eU N ops=true)(o:Oper)(ho:ops[n]?=some o)(h:∀ K:St->Prop,(∀ s,W P N n0 y Q s->K s)->opsL P ops (ops.toList.take n) (sN P o (opsL P ops (ops.toList.drop (n+1)) K)) σ):W P N n0 (.seq (.region id ops false) y) Q σ:=by
 refine Fc ?_;intro os γ0 a w hn ay;refine wp_region ?_;have qg:n<ops.size:=(Array.getElem?_eq_some_iff.1 ho).1;have e:List.range ops.size=lH 0 (ops.toList.take n).length++(n::lH (n+1) (ops.toList.drop (n+1)).length):=by
  rw[List.range_eq_range',<- List.range'_succ];have:=List.range'_append (s:=0) (m:=n) (n:=(ops.toList.drop (n+1)).length+1) (step:=1);simp only[Nat.zero_add,Nat.one_mul]at this;rw[show(ops.toList.take n).length=n by simp;omega,this];congr 1;simp;omega
 rw[e];refine xQ _ a w ?_;refine qZ (nx hd) (K:=sN P o (opsL P ops (ops.toList.drop (n+1)) (W P N n0 y Q))) (λσ' a' w' hk cP=>?_) (ops.toList.take n) 0 σ a w (λk hk=>?_) (h _ (λ_ h=>h)) ay
 ·show wpOps P ops _ _ a' w';rw[wpOps_cons];unfold wpOp;simp only[ho];have hw:Region.wanted o (yielded ops a'.tmps)=true:=by simp[Region.wanted,hk.1]
  rw[if_pos hw];left;refine F6 hk cP (nx hd o (List.mem_of_getElem? (by simpa using ho))) (λσ2 a2 w2 bd zD=>?_);refine qZ (nx hd) (K:=W P N n0 y Q) (λzE a3 w3 fU zF=>⟨zE,fU,zF⟩) (ops.toList.drop (n+1)) (n+1) σ2 a2 w2 (λk hk=>?_) bd zD;rw[List.getElem?_drop];simp
 ·simp only[List.length_take,qR]at hk;rw[List.getElem?_take_of_lt Ix];simp
def yd(aj:List Nat){f:FuncId}{args dz:List AV}{bP:List Ob}{dst:Option Tmp}{K:St->Prop}{hJ:AV->List Ob->Prop}(h:cQ P f dz bP hJ)(bU:aj.Nodup)(ho:xP (bq σ.aa.length aj) σ.aa aj bP)(ha:ju (bw σ (·∈aj) (bq σ.aa.length aj) false) dz args)(hK:∀ res cY,hJ res cY->K (({ σ with aa:=fl σ.aa aj (cY.map (bH (bq σ.aa.length aj))) }:St).put dst (bf (bq σ.aa.length aj) res))):jz P f args dst K σ:=by
 obtain⟨h1,h2⟩:=ho.spec;obtain⟨h3,h4⟩:=ha.spec;exact⟨aj,false,dz,bP,hJ,h,⟨bU,h1,h2,h3,h4⟩,λres cY hp=>⟨Iy,hK res cY hp⟩⟩
end Go.Am

