import Derived.Test.YtdipcmigdbnheaaGreatX05
set_option linter.unusedVariables false
set_option linter.unusedSimpArgs false
set_option linter.unnecessarySimpa false
set_option linter.unusedSectionVars false
set_option maxHeartbeats 64000000
set_option maxRecDepth 20000
open Nat renaming lt_or_ge→eK
open Array renaming getD_eq_getD_getElem?→eQ,getElem?_append_left→C8
namespace Go.Am
variable {P:Program}
variable {N n0:Nat} {Q:Exit→St→Prop} {σ:St}
def gH (P:Program) (n0:Nat) (rs:List ResultVar) (ij:AV→List Ob→Prop):Exit→St→Prop
  | .normal,s=>ei s P rs fun vs=>∃ res ba,ij res ba∧m5 n0 s (ee vs) res ba
  | .ret,s=>ei s P rs fun vs=>∃ res ba,ij res ba∧m5 n0 s (ee vs) res ba
  | _,_=>False
theorem fF.Hd {f : FuncId} {fn : Func} {c : Code} {args : List AV} {aa : List Ob} {ij : AV → List Ob → Prop} (hf : P.funcs[f]? = some fn) (hb : fn.body = some c) (pJ : (fn.name == "runtime.NumGoroutine") = false)
    (hN:args.length≤fn.ntmps) (h:W P fn.ntmps aa.length c (gH P aa.length fn.results.toList ij) ⟨fun k=>args.getD k .undef,aa⟩):fF P f args aa ij:=by
  refine⟨⟨fn,hf,pJ,by rw[hb];rfl⟩,?_⟩
  intro γ aW hs
  refine calls_of_wp hf hb ?_
  let tm:=γ.tmps++Array.replicate (fn.ntmps - γ.tmps.size) Go.undef
  have aQ:gA fn.ntmps aa γ ⟨fun k=>args.getD k .undef,aa⟩ { tmps:=tm,defers:=[] } γ.w:=by
    refine⟨rfl,by simp[tm];omega,{ γ with tmps:=tm },rfl,rfl,⟨fun k=>?_,hs.er,hs.inj,hs.nz,hs.gB⟩,(Fr.refl _ _).put _⟩
    rcases eK k args.length with hk | hk
    · have:=hs.av k
      have e:tm.getD k Go.undef=γ.tmps.getD k Go.undef:=by
        simp only[tm,eQ]
        rw[C8 (by omega)]
      show aw _ _ _ _ _ (tm.getD k Go.undef)
      rw[e];exact this
    · have e:args.getD k AV.undef=.undef:=by simp[hk]
      show aw _ _ _ _ (args.getD k .undef) _
      rw[e];exact .undef _
  refine wp_mono (h aa γ _ γ.w rfl aQ) ?_
  rintro e a' w' ⟨σ',h1,ig,_,aB,rfl,ha,gX,fV⟩
  have fin:∀ (K:List AV→Prop),ei σ' P fn.results.toList K→(∀ vs,K vs→∃ res ba,ij res ba∧m5 aa.length σ' (ee vs) res ba) →
      a'.defers=[]∧∃ v,(results fn a'.tmps).run P aB.w=.ok v aB.w∧∃ res ba cv iH,ij res ba∧Ending.returned v=.returned cv∧iH.w=aB.w∧iH.tmps = #[cv]∧br ⟨fun k=>[res].getD k .undef,ba⟩ iH∧Fr aa γ ba iH:=by
    intro K hK He
    obtain ⟨vs,aY,k1,k2,k3,k4,k5⟩:=DM gX _ _ hK
    obtain ⟨res,ba,G7,aj,snap,r1,r2,r3,r4,r5,r6,r7⟩:=He vs k1
    refine⟨ig,?_⟩
    have eF :∃v,(results fn a'.tmps).run P aB.w=.ok v aB.w∧aw σ'.aa aB.w aB.Z aB.blk (ee vs) v:=by
      have hm:(fn.results.mapM fun (r:ResultVar)=>match r with | .tmp t=>(pure (a'.tmps.getD t Go.undef):Sem Value) | .cell a t=>do loadVar t (← asAddr (a'.tmps.getD a Go.undef))).run P aB.w=.ok aY.toArray aB.w:=by
        rw[Array.mapM_eq_mapM_toList,Sem.run_map,← ha]
        exact congrArg (fun (r:Result (List Value))=>r.andThen fun a w'=>Result.ok a.toArray w') k2
      have hr:(results fn a'.tmps).run P aB.w=.ok (if h:aY.toArray.size=1 then aY.toArray[0] else .tuple aY.toArray) aB.w:=by
        unfold results
        rw[Sem.run_bind]
        exact congrArg (fun r=>Result.andThen r fun (a:Array Value) w'=>(pure (if h:a.size=1 then a[0] else Value.tuple a):Sem Value).run P w') hm
      rw[hr]
      match vs,aY,k3,k5 with
      | [],[],_,k5=>exact⟨_,rfl,.bL _ _ rfl (fun j x hj=>by simp at hj)⟩
      | [v],[cv],_,k5=>exact⟨cv,by simp,by simpa [ee] using k5 0 v rfl⟩
      | v::v'::vs,cv::nW::aY,k3,k5 =>
        refine⟨.tuple (cv::nW::aY).toArray,by simp,.bL _ _ (by simpa using k3) (fun j x hj=>?_)⟩
        have:=k5 j x hj
        simpa [List.getD_eq_getElem?_getD,eQ] using this
    obtain ⟨v,qw,yX⟩:=eF
    obtain ⟨iH,e1,e2,e3,e4⟩:=gX.select aj snap ba r1 r2 r3 r4 (fun k=>[res].getD k .undef) #[v] (fun k=>by
      cases k with
      | zero=>exact .inr ⟨_,r7,by simpa using yX⟩
      | succ k=>left;simp)
    exact⟨v,qw,res,ba,v,iH,G7,rfl,e1,e2,e3,fV.select r5 r2 r6 e1 e4⟩
  cases e with
  | normal=>exact fin _ h1 (fun _ h=>h)
  | ret=>exact fin _ h1 (fun _ h=>h)
  | exit id=>exact h1.elim
  | goto l=>exact h1.elim
  | panic c=>exact h1.elim
  | outgrown=>exact h1.elim
theorem fF.aF {f : FuncId} {fn : Func} {c : Code} {args : List AV} {aa : List Ob} {ij : AV → List Ob → Prop} (N k : Nat) (rs : List ResultVar) (hf : P.funcs[f]? = some fn) (hb : fn.body = some c) (pJ : (fn.name == "runtime.NumGoroutine") = false)
    (hN:fn.ntmps=N) (AY:fn.results.toList=rs) (hk:aa.length=k) (hl:args.length≤N) (h:W P N k c (gH P k rs ij) ⟨fun k=>args.getD k .undef,aa⟩):fF P f args aa ij:=by
  subst hN;subst AY;subst hk
  exact fF.Hd hf hb pJ hl h
def nm (P:Program) (g:FuncId) (args:List AV) (dst:Option Tmp) (K:St→Prop) (σ:St):Prop:=G3 P g args σ fun v σ'=>K (σ'.put dst v)
def sT (P:Program) (o:Oper) (K:St→Prop) (σ:St):Prop :=
  o.guard=none ∧
  match o.op with
  | .call { callee:=.value f,args,.. } =>
    match ev σ f with
    | .fn g bk=>nm P g (args.toList.map (ev σ)++bk) o.dst K σ
    | _=>False
  | _=>False
theorem HP {os:List Ob} {γ0:Cx} {o:Oper} {K:St→Prop} (h:sT P o K σ) {a:Act} {w:World} (aQ:gA N os γ0 σ a w) (hd:∀ d,o.dst=some d→d<N)
    {Q:Exit→Act→World→Prop} {next:Act→World→Prop} (hn:∀ σ' a' w',K σ'→gA N os γ0 σ' a' w'→next a' w'):o.wp P a w next Q:=by
  obtain ⟨ig,aW,γ,rfl,ha,hs,hf⟩:=aQ
  have rA:∀ d,o.dst=some d→d<a.tmps.size:=fun d h=>by rw[aW];exact hd d h
  obtain ⟨_,h⟩:=h
  split at h
  · rename_i f args fc cT
    split at h
    · rename_i g bk he
      have dE:=sN hs ha f
      rw[he] at dE
      obtain ⟨aY,a9,gk,qv⟩:=dE.MZ
      have mC:∀ (j:Nat) d,(args.toList.map (ev σ)++bk)[j]?=some d→aw σ.aa γ.w γ.Z γ.blk d (((args.map a.eval)++aY).getD j Go.undef):=by
        intro j d hj
        simp only[eQ]
        rcases eK j args.size with bj | lE
        · rw[List.getElem?_append_left (by simpa using bj)] at hj
          rw[C8 (by simpa using bj)]
          simp only[List.getElem?_map,Array.getElem?_toList,Array.getElem?_map] at hj ⊢
          cases hx:args[j]? with
          | none=>simp[hx] at hj
          | some y=>simp[hx] at hj ⊢;subst hj;exact sN hs ha y
        · rw[List.getElem?_append_right (by simpa using lE)] at hj
          rw[Array.getElem?_append_right (by simpa using lE)]
          simp only[List.length_map,Array.length_toList,Array.size_map] at hj ⊢
          have:=qv _ d hj
          simpa [eQ] using this
      unfold nm at h
      have nf:=MR hs (argv:=(args.map a.eval)++aY) (by simp[gk]) mC h
      obtain ⟨aj,snap,cW,bM,ij,⟨⟨fn,ui,pJ,vy⟩,_⟩,_⟩:=h
      unfold Oper.wp
      have hr:(execOp a.eval o).run P γ.w=.ok (.enter g ((args.map a.eval)++aY)) γ.w:=by
        have eM : ¬ fn.name = "runtime.NumGoroutine" := by simpa using pJ
        have nV:¬ fn.body=none:=by intro e;rw[e] at vy;simp at vy
        simp[execOp,cT,resolve,a9,Deferred.ofValue,invoke,callFunc,ui,eM,nV]
      rw[hr]
      show Calls P g _ _ _
      refine nf.mono ?_
      rintro e w' ⟨cv,v,σ',aB,rfl,rfl,jK,gX,fV,hv,hK,vz⟩
      refine hn _ _ _ hK ⟨by rw[put_defers];exact ig,by rw[sH];exact aW,{ aB with tmps:=(a.put o.dst cv).tmps },rfl,rfl,qg gX (by rw[jK,ha]) rA hv,?_⟩
      rw[qh]
      exact (hf.trans fV).put _
    · exact h.elim
  · exact h.elim
theorem Bj (aj:List Nat) {f:FuncId} {args cW:List AV} {bM:List Ob} {dst:Option Tmp} {K:St→Prop} {ij:AV→List Ob→Prop} (h:fF P f cW bM ij) (bR:aj.Nodup)
    (ho:tX (bd σ.aa.length aj) σ.aa aj bM) (ha:fD (aN σ (·∈aj) (bd σ.aa.length aj) false) cW args)
    (hK:∀ res cz,ij res cz→K (({ σ with aa:=dM σ.aa aj (cz.map (bC (bd σ.aa.length aj))) }:St).put dst (aX (bd σ.aa.length aj) res))):nm P f args dst K σ:=by
  obtain ⟨h1,h2⟩:=ho.spec
  obtain ⟨h3,h4⟩:=ha.spec
  exact⟨aj,false,cW,bM,ij,h,⟨bR,h1,h2,h3,h4⟩,fun res cz hp=>⟨by simp,hK res cz hp⟩⟩
end Go.Am

