import Derived.Test.YtfoopmojjjpapaaGreatX06
set_option linter.all false
set_option maxHeartbeats 0
set_option maxRecDepth 20000
open Nat renaming lt_or_ge→dP
open Array renaming getD_eq_getD_getElem?→eL,getElem?_append_left→GD,length_toList→sg
open List renaming range'→mB
namespace Go.Am
variable {P:Program}
variable {N n0:Nat} {Q:Exit->St->Prop} {σ:St}
def eU(P:Program)(n0:Nat)(rs:List ResultVar)(iF:AV->List Ob->Prop):Exit->St->Prop
 |.normal,s=>dI s P rs λvs=>∃ res bn,iF res bn/\oK n0 s (dE vs) res bn
 |.ret,s=>dI s P rs λvs=>∃ res bn,iF res bn/\oK n0 s (dE vs) res bn
 |_,_=>False
def cX.Lf {f : FuncId} {fn : Func} {c : Code} {args : List AV} {aa : List Ob} {iF : AV -> List Ob -> Prop} (hf : P.funcs[f]? = some fn) (hb : fn.body = some c) (sN : (fn.name == "runtime.NumGoroutine") = false)
  (hN:args.length<=fn.ntmps) (h:W P fn.ntmps aa.length c (eU P aa.length fn.results.toList iF) ⟨λk=>args.getD k .undef,aa⟩):cX P f args aa iF:=by
 refine⟨⟨fn,hf,sN,by rw[hb];rfl⟩,?_⟩;intro γ aP hs;refine calls_of_wp hf hb ?_
 let tm:=γ.tmps++Array.replicate (fn.ntmps-γ.tmps.size) Go.undef
 have ax:fX fn.ntmps aa γ ⟨λk=>args.getD k .undef,aa⟩ { tmps:=tm,defers:=[] } γ.w:=by
  refine⟨rfl,by simp[tm];omega,{ γ with tmps:=tm },rfl,rfl,⟨λk=>?_,hs.dT,hs.inj,hs.nz,hs.gG,hs.gl⟩,(Fr.refl _ _).put _⟩;rcases dP k args.length with hk|hk
  ·have:=hs.ao k;have e:tm.getD k Go.undef=γ.tmps.getD k Go.undef:=by
    simp only[tm,eL];rw[GD GK]
   show aw _ _ _ _ _ (tm.getD k Go.undef);rw[e];exact this
  ·have e:args.getD k AV.undef=.undef:=by simp[hk]
   show aw _ _ _ _ (args.getD k .undef) _;rw[e];exact .undef _
 refine wp_mono (h aa γ _ γ.w rfl ax) ?_;rintro e a' w'⟨σ',h1,il,_,aA,rfl,ha,iO,fF⟩;have fin:∀ (K:List AV->Prop),dI σ' P fn.results.toList K->(∀ vs,K vs->∃ res bn,iF res bn/\oK aa.length σ' (dE vs) res bn) ->
   a'.defers=[]/\∃ v,(results fn a'.tmps).run P aA.w=.ok v aA.w/\∃ res bn cv jJ,iF res bn/\Ending.returned v=.returned cv/\jJ.w=aA.w/\jJ.tmps = #[cv]/\bx ⟨λk=>[res].getD k .undef,bn⟩ jJ/\Fr aa γ bn jJ:=by
  intro K hK Lh;obtain⟨vs,bm,k1,k2,k3,k4,k5⟩:=Hk iO _ _ hK;obtain⟨res,bn,K6,aj,snap,r1,r2,r3,r4,r5,r6,r7⟩:=Lh vs k1;refine⟨il,?_⟩;have eT :∃v,(results fn a'.tmps).run P aA.w=.ok v aA.w/\aw σ'.aa aA.w aA.Z aA.blk (dE vs) v:=by
   have hm:(fn.results.mapM λ(r:ResultVar)=>match r with|.tmp t=>(pure (a'.tmps.getD t Go.undef):Sem Value)|.cell a t=>do loadVar t (← asAddr (a'.tmps.getD a Go.undef))).run P aA.w=.ok bm.toArray aA.w:=by
    rw[Array.mapM_eq_mapM_toList,Sem.run_map,<- ha];exact congrArg (λ(r:Result (List Value))=>r.andThen λa w'=>Result.ok a.toArray w') k2
   have hr:(results fn a'.tmps).run P aA.w=.ok (if h:bm.toArray.size=1 then bm.toArray[0] else .tuple bm.toArray) aA.w:=by
    unfold results;rw[Sem.run_bind];exact congrArg (λr=>Result.andThen r λ(a:Array Value) w'=>(pure (if h:a.size=1 then a[0] else Value.tuple a):Sem Value).run P w') hm
   rw[hr]
   match vs,bm,k3,k5 with
   |[],[],_,k5=>exact⟨_,rfl,.bD _ _ rfl (λj x hj=>by simp at hj)⟩
   |[v],[cv],_,k5=>exact⟨cv,GM,by simpa [dE] using k5 0 v rfl⟩
   |v::v'::vs,cv::qn::bm,k3,k5 =>
    refine⟨.tuple (cv::qn::bm).toArray,GM,.bD _ _ (by simpa using k3) (λj x hj=>?_)⟩;have:=k5 j x hj;simpa [List.getD_eq_getElem?_getD,eL] using this
  obtain⟨v,np,zq⟩:=eT;obtain⟨jJ,e1,e2,e3,e4⟩:=iO.select aj snap bn r1 r2 r3 r4 (λk=>[res].getD k .undef) #[v] (λk=>by
   cases k with
   |zero=>exact .inr ⟨_,r7,by simpa using zq⟩
   |succ k=>left;simp)
  exact⟨v,np,res,bn,v,jJ,K6,rfl,e1,e2,e3,fF.select r5 r2 r6 e1 e4⟩
 cases e with
 |normal=>exact fin _ h1 (λ_ h=>h)
 |ret=>exact fin _ h1 (λ_ h=>h)
 |exit id=>exact h1.elim
 |goto l=>exact h1.elim
 |panic c=>exact h1.elim
 |outgrown=>exact h1.elim
theorem cX.aM {f:FuncId} {fn:Func} {c:Code} {args:List AV} {aa:List Ob} {iF:AV -> List Ob -> Prop} (N k:Nat) (rs:List ResultVar) (hf:P.funcs[f]?=some fn) (h:W P N k c (eU P k rs iF) ⟨fun k=>args.getD k .undef,aa⟩) (hb:fn.body=some c:=by rfl) (sN:(fn.name=="runtime.NumGoroutine")=false:=by rfl) (hN:fn.ntmps=N:=by rfl) (zr:fn.results.toList=rs:=by rfl) (hk:aa.length=k:=by rfl) (hl:args.length<=N:=by simp):cX P f args aa iF:=by
 subst hN;subst zr;subst hk;exact cX.Lf hf hb sN hl h
def j1(P:Program)(g:FuncId)(args:List AV)(dst:Option Tmp)(K:St->Prop)(σ:St):Prop:=KZ P g args σ λv σ'=>K (σ'.put dst v)
def uj(P:Program)(o:Oper)(K:St->Prop)(σ:St):Prop :=
 o.guard=none /\
 match o.op with
 |.call { callee:=.value f,args,.. } =>
  match ev σ f with
  |.fn g bC=>j1 P g (args.toList.map (ev σ)++bC) o.dst K σ
  |_=>False
 |_=>False
def HM{os:List Ob}{γ0:Cx}{o:Oper}{K:St->Prop}(h:uj P o K σ){a:Act}{w:World}(ax:fX N os γ0 σ a w)(hd:∀ d,o.dst=some d->d<N){Q:Exit->Act->World->Prop}{next:Act->World->Prop}(hn:∀ σ' a' w',K σ'->fX N os γ0 σ' a' w'->next a' w'):o.wp P a w next Q:=by
 obtain⟨il,aP,γ,rfl,ha,hs,hf⟩:=ax;have vo:∀ d,o.dst=some d->d<a.tmps.size:=λd h=>by rw[aP];exact hd d h
 obtain⟨_,h⟩:=h;split at h
 ·rename_i f args cC cM;split at h
  ·rename_i g bC he;have dU:=tZ hs ha f;rw[he]at dU;obtain⟨bm,aT,gD,sM⟩:=dU.R0;have oI:∀ (j:Nat) d,(args.toList.map (ev σ)++bC)[j]?=some d->aw σ.aa γ.w γ.Z γ.blk d (((args.map a.eval)++bm).getD j Go.undef):=by
    intro j d hj;simp only[eL];rcases dP j args.size with aX|gd
    ·rw[List.getElem?_append_left (by simpa using aX)]at hj;rw[GD (by simpa using aX)];simp only[List.getElem?_map,Array.getElem?_toList,Array.getElem?_map]at hj ⊢;cases hx:args[j]? with
     |none=>simp[hx]at hj
     |some y=>simp[hx]at hj ⊢;subst hj;exact tZ hs ha y
    ·rw[List.getElem?_append_right (by simpa using gd)]at hj;rw[Array.getElem?_append_right (by simpa using gd)];simp only[List.length_map,sg,Array.size_map]at hj ⊢;have:=sM _ d hj;simpa [eL] using this
   unfold j1 at h;have pz:=RU hs (argv:=(args.map a.eval)++bm) (by simp[gD]) oI h;obtain⟨aj,snap,dL,bY,iF,⟨⟨fn,yb,sN,zo⟩,_⟩,_⟩:=h;unfold Oper.wp;have hr:(execOp a.eval o).run P γ.w=.ok (.enter g ((args.map a.eval)++bm)) γ.w:=by
    have mL : ¬ fn.name = "runtime.NumGoroutine" := by simpa using sN
    have nm:¬ fn.body=none:=by intro e;rw[e]at zo;simp at zo
    simp[execOp,cM,resolve,aT,Deferred.ofValue,invoke,callFunc,yb,mL,nm]
   rw[hr];show Calls P g _ _ _;refine pz.mono ?_;rintro e w'⟨cv,v,σ',aA,rfl,rfl,ka,iO,fF,hv,hK,uc⟩;refine hn _ _ _ hK ⟨by rw[put_defers];exact il,by rw[vc];exact aP,{ aA with tmps:=(a.put o.dst cv).tmps },rfl,rfl,sI iO (by rw[ka,ha]) vo hv,?_⟩;rw[qY];exact(hf.trans fF).put _
  ·exact h.elim
 ·exact h.elim
def SP(n:Nat){id:Nat}{ops:Array Oper}{y:Code}(hd:fq N ops=true)(o:Oper)(ho:ops[n]?=some o)(h:∀ K:St->Prop,(∀ s,W P N n0 y Q s->K s)->opsL P ops (ops.toList.take n) (uj P o (opsL P ops (ops.toList.drop (n+1)) K)) σ):W P N n0 (.seq (.region id ops false) y) Q σ:=by
 refine G3 ?_;intro os γ0 a w hn ax;refine wp_region ?_;have rf:n<ops.size:=(Array.getElem?_eq_some_iff.1 ho).1;have e:List.range ops.size=mB 0 (ops.toList.take n).length++(n::mB (n+1) (ops.toList.drop (n+1)).length):=by
  rw[List.range_eq_range',<- List.range'_succ];have:=List.range'_append (s:=0) (m:=n) (n:=(ops.toList.drop (n+1)).length+1) (step:=1);simp only[Nat.zero_add,Nat.one_mul]at this;rw[show(ops.toList.take n).length=n by simp;omega,this];congr 1;simp;omega
 rw[e];refine zh _ a w ?_;refine sH (oL hd) (K:=uj P o (opsL P ops (ops.toList.drop (n+1)) (W P N n0 y Q))) (λσ' a' w' hk cW=>?_) (ops.toList.take n) 0 σ a w (λk hk=>?_) (h _ (λ_ h=>h)) ax
 ·show wpOps P ops _ _ a' w';rw[wpOps_cons];unfold wpOp;simp only[ho];have hw:Region.wanted o (yielded ops a'.tmps)=true:=by simp[Region.wanted,hk.1]
  rw[if_pos hw];left;refine HM hk cW (oL hd o (List.mem_of_getElem? (by simpa using ho))) (λσ2 a2 w2 bz wU=>?_);refine sH (oL hd) (K:=W P N n0 y Q) (λBb a3 w3 gx wV=>⟨Bb,gx,wV⟩) (ops.toList.drop (n+1)) (n+1) σ2 a2 w2 (λk hk=>?_) bz wU;rw[List.getElem?_drop];simp
 ·simp only[List.length_take,sg]at hk;rw[List.getElem?_take_of_lt GK];simp
def zA(aj:List Nat){f:FuncId}{args dL:List AV}{bY:List Ob}{dst:Option Tmp}{K:St->Prop}{iF:AV->List Ob->Prop}(h:cX P f dL bY iF)(bV:aj.Nodup)(ho:zf (bq σ.aa.length aj) σ.aa aj bY)(ha:jE (aZ σ (·∈aj) (bq σ.aa.length aj) false) dL args)(hK:∀ res db,iF res db->K (({ σ with aa:=e8 σ.aa aj (db.map (bM (bq σ.aa.length aj))) }:St).put dst (bk (bq σ.aa.length aj) res))):j1 P f args dst K σ:=by
 obtain⟨h1,h2⟩:=ho.spec;obtain⟨h3,h4⟩:=ha.spec;exact⟨aj,false,dL,bY,iF,h,⟨bV,h1,h2,h3,h4⟩,λres db hp=>⟨GM,hK res db hp⟩⟩
end Go.Am

